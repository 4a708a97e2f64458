/- Texts of this claim, one behind the other: what the law's functions come to, walked (printed by a program, with the words that the print uses), and what that is, in plain Lean. No conditions of their own. -/
import Derived.Test.YtjehhhlhalkieaaQCallPresses8
import Derived.Deep.RegionLaw
import Derived.Laws.NewBlocks
import Derived.Lib.AppendZerosOnto
import Derived.Shelf.Spec.SlicesInsert
namespace Go.Proofs.Ytjehhhlhalkieaa.C
open Go.RowKit Go.Proofs.YtjehhhlhalkieaaW.PrintWords Go.Proofs.YtjehhhlhalkieaaW.PrintLast Go.Proofs.YtjehhhlhalkieaaW.PrintMore
set_option linter.unusedVariables false
set_option linter.unusedSimpArgs false
section
variable {α : Type} {d : Kd α} {enc : α → List Value}
theorem Vk (a b c:List Value) (n:Nat) (h:n=a.length+b.length+c.length) (r:List Value):(a++b++(c++r)).take n=a++b++c:=by
  subst h
  rw[← List.append_assoc,List.take_left' (by simp only[List.length_append])]
theorem Gg (F:Flat d enc) {e:TypeId} (w:World) (b i n:Nat) (cur:Array Value) (l:List α) (x:α) (hh:w.heap[b]?=some (.cells cur e (0,0))) (hl:l.length=n) (hi:i≤n) (hs:(n+1) * d.sz≤cur.size) (ht:cur.toList.take (i * d.sz)=Zk enc (l.take i)):
    ∃ cur',((w.setCells b ((i+1) * d.sz) (Zk enc (l.drop i))).setCells b (i * d.sz) (enc x)).heap[b]?=some (.cells cur' e (0,0))∧cur'.size=cur.size∧cur'.toList.take ((n+1) * d.sz)=Zk enc (l.take i ++ [x]++l.drop i):=by
  have l1:(Zk enc (l.drop i)).length=(n-i) * d.sz:=by rw[Z6 F,List.length_drop,hl]
  have l0:(Zk enc (l.take i)).length=i * d.sz:=by rw[Z6 F,List.length_take,hl,Nat.min_eq_left hi]
  have Z:(i+1) * d.sz+(n-i) * d.sz=(n+1) * d.sz:=by rw[← Nat.add_mul];congr 1;omega
  have e2:(i+1) * d.sz=i * d.sz+d.sz:=by rw[Nat.add_mul,Nat.one_mul]
  obtain⟨B,L,a2,X⟩:=Xz (Zk enc (l.drop i)) ((i+1) * d.sz) w cur hh (by rw[l1,Z];exact hs)
  obtain⟨D,U,Y,b3⟩:=Xz (enc x) (i * d.sz) _ B L (by rw[F.len,a2,← e2];omega)
  refine⟨D,U,by rw[Y,a2], ?_⟩
  have hcl:cur.toList.length=cur.size:=by simp
  have I:B.toList.take (i * d.sz)=Zk enc (l.take i):=by
    rw[X,List.append_assoc,List.take_append_of_le_length (by rw[List.length_take,hcl];omega),List.take_take,Nat.min_eq_left (by omega),ht]
  have d1:B.toList.drop (i * d.sz+d.sz)=Zk enc (l.drop i)++cur.toList.drop ((i+1) * d.sz+(Zk enc (l.drop i)).length):=by
    rw[X,← e2,List.append_assoc,List.drop_left' (by rw[List.length_take,hcl];omega)]
  rw[b3,I,F.len,d1,Vk _ _ _ _ (by rw[l0,l1,F.len,← e2,Z])]
  rw[Yc,Yc]
  simp[Zk]
end
abbrev Xv:S56→List Value:=(fun x:S56=>[.int .i64 x.f0,.int .i64 x.f1,.int .i64 x.f2])
set_option maxHeartbeats 4000000 in
set_option maxRecDepth 100000 in
theorem Wn (b n c i vb vc:Nat) (l:List S56) (x:S56) (w:World) (cur curv:Array Value) (hi:i<n) (hroom:n+1≤c) (γ:c≤9223372036854775807) (hvb:vb≠b) (hl:l.length=n)
    (hh:w.heap[b]?=some (.cells cur 56 (0,0))) (hcs:cur.size=c * 3) (ht:cur.toList.take (n * 3)=Zk Xv l) (hv:w.heap[vb]?=some (.cells curv 56 (0,0))) (hvs:0<curv.size) (hvt:curv.toList.take 3=Xv x):
    Calls Try.prog 63 #[.slice (some ⟨b,0,none⟩) n c,.int .i64 (i:Int),.slice (some ⟨vb,0,none⟩) 1 vc] w fun e w'=>
      e = .returned (.slice (some ⟨b,0,none⟩) (n+1) c)∧w'=(w.drew.setCells b ((i+1) * 3) (Zk Xv (l.drop i))).setCells b (i * 3) (Xv x):=by
  obtain⟨i0,B,Z,hsz,X⟩:=info_parts Xr
  have J:(Try.prog.info? 56).map (·.size)=some 3:=by rw[B];simp[hsz]
  have hcur:∀ j v,cur[j]?=some v→w.cell? ⟨b,j,none⟩=some v:=fun j v hj=>by rw[cell_of_row w b j cur 56 (0,0) hh];exact hj
  have hsome:∀ j,j<c * 3→(w.cell? ⟨b,j,none⟩).isSome=true:=fun j hj=>by rw[cell_of_row w b j cur 56 (0,0) hh];simp;omega
  have hfz:∀ j,w.frozen? ⟨b,j,none⟩=false:=fun j=>Q6 hh j
  have hsa:w.shape? vb=some (56,curv.size):=by simp[World.shape?,hv]
  have hsb:w.shape? b=some (56,cur.size):=by simp[World.shape?,hh]
  have hsize:∀ w,(sizeOf 56).run Try.prog w = .ok 3 w:=fun w=>by kernel_rfl
  have hov:∀ lb cb,(callFunc 70 #[.slice (some ⟨vb,0,none⟩) 1 vc,.slice (some ⟨b,(i+1) * 3,none⟩) lb cb]).run Try.prog w = .ok (.value (.bool false)) w:=fun lb cb=>by
    rw[run_callFunc_extern Try.func70 kr kr kr (e:=Extern.SlicesOverlaps.overlaps #[24,24] #[4]) kr,
      Lib.run_overlaps_apart w 24 4 56 Try.underlying24 3 hsize ⟨vb,0,none⟩ ⟨b,(i+1) * 3,none⟩ 1 vc lb cb hvb 56 56 curv.size cur.size hsa hsb (by omega) (Q6 hv _) (Q6 hv _)]
    rfl
  have hdl:(Zk Xv (l.drop i)).length=(n-i) * 3:=by rw[Z6 X9,List.length_drop,hl];rfl
  have hdr:(Zk Xv (l.drop i))=(cur.toList.take (n * 3)).drop (i * 3):=by rw[ht];exact(Jy X9 l i (by omega)).symm
  have U:∀ ty la dc lb sc,min lb la=n-i→(Builtin.copy_ #[24,24] ty #[.slice (some ⟨b,(i+1) * 3,none⟩) la dc,.slice (some ⟨b,i * 3,none⟩) lb sc]).run Try.prog w.drew = .ok (goInt (n-i:Nat)) (w.drew.setCells b ((i+1) * 3) (Zk Xv (l.drop i))):=fun ty la dc lb sc hm=>by
    have:=Ym (P:=Try.prog) w.drew 24 24 ty 56 3 b ((i+1) * 3) la dc ⟨b,i * 3,none⟩ lb sc (Zk Xv (l.drop i)) Try.underlying24 J (by rw[hdl,hm])
      (fun j v hj=>by
        have δ :=(List.getElem?_eq_some_iff.1 hj).1
        rw[hdr,List.getElem?_drop,List.getElem?_take] at hj
        split at hj
        · rw[Addr.add_lit]
          exact hcur (i * 3+j) v (by rw[← Array.getElem?_toList];exact hj)
        · cases hj)
      (fun j hj=>hsome _ (by rw[hdl] at hj;omega)) (fun j hj=>hfz _) (Kg X9 _)
    rw[hm] at this
    exact this
  obtain⟨W1,D⟩:∃ W1,W1=w.drew.setCells b ((i+1) * 3) (Zk Xv (l.drop i)):=⟨_,rfl⟩
  have Y:∀ (W:World),(∀ x,W.cell? x=W1.cell? x)→(∀ x,W.frozen? x=W1.frozen? x) → ∀ ty la dc,1≤la→(Builtin.copy_ #[24,24] ty #[.slice (some ⟨b,i * 3,none⟩) la dc,.slice (some ⟨vb,0,none⟩) 1 vc]).run Try.prog W = .ok (goInt (1:Nat)) (W.setCells b (i * 3) (Xv x)):=fun W hWc hWf ty la dc hla=>by
    have hm:min 1 la=1:=by omega
    have:=Ym (P:=Try.prog) W 24 24 ty 56 3 b (i * 3) la dc ⟨vb,0,none⟩ 1 vc (Xv x) Try.underlying24 J (by rw[hm];rfl)
      (fun j v hj=>by
        rw[Addr.add_lit,hWc,D,World.cell?_setCells_out b _ _ _ _ (fun h _=>absurd h hvb)]
        rw[← hvt,List.getElem?_take] at hj
        split at hj
        · show w.cell? ⟨vb,0+j,none⟩=some v
          rw[Nat.zero_add,cell_of_row w vb j curv 56 (0,0) hv,← Array.getElem?_toList];exact hj
        · cases hj)
      (fun j hj=>by
        rw[hWc,D]
        have ε :j<3:=hj
        exact isSome_setCells b _ _ w.drew (fun q hq=>hsome ((i+1) * 3+q) (by rw[hdl] at hq;omega)) _ (hsome (i * 3+j) (by omega)))
      (fun j hj=>by rw[hWf,D,World.frozen?_setCells];exact hfz _) (X9.one x)
    rw[hm] at this
    exact this
  subst D
  have O:=Y _ (fun _=>rfl) (fun _=>rfl) 3 (n+1-i) (c-i) (by omega)
  have g1:∀ W:World,(Instr.slice 24 (.slice (some ⟨b,0,none⟩) n c) (some (.int .i64 (i:Int))) none none).run Try.prog W = .ok (.slice (some ⟨b,i * 3,none⟩) (n-i) (c-i)) W:=fun W=>by
    rw[Xl (P:=Try.prog) 24 56 .i64 Try.underlying24 B 3 hsz (some ⟨b,0,none⟩) n c (i:Int) (by omega) (by omega) W,Int.toNat_natCast,if_neg (by omega),Option.map_some,Z7]
  have I:∀ W:World,(Instr.slice 24 (.slice (some ⟨b,0,none⟩) n c) none (some (.int .i64 ((n:Int)+1))) none).run Try.prog W = .ok (.slice (some ⟨b,0,none⟩) (n+1) c) W:=fun W=>by
    have hel:Try.prog.elem 24=56:=by simp[Program.elem,Try.underlying24]
    rw[run_slice_h W 24 (some ⟨b,0,none⟩) n c (by rw[hel];exact Try.underlying24) .i64 ((n:Int)+1) (by omega) (by omega),hel]
    simp[sizeOf,typeInfo,B,sliced,Result.andThen,Addr.add]
  have g3:∀ W:World,(Instr.slice 24 (.slice (some ⟨b,0,none⟩) (n+1) c) (some (.int .i64 ((i:Int)+1))) none none).run Try.prog W = .ok (.slice (some ⟨b,(i+1) * 3,none⟩) (n+1 - (i+1)) (c - (i+1))) W:=fun W=>by
    rw[Xl (P:=Try.prog) 24 56 .i64 Try.underlying24 B 3 hsz (some ⟨b,0,none⟩) (n+1) c ((i:Int)+1) (by omega) (by omega) W,show((i:Int)+1).toNat=i+1 from by omega,if_neg (by omega),Option.map_some,Z7]
  have g4:∀ W:World,(Instr.slice 24 (.slice (some ⟨b,0,none⟩) (n+1) c) (some (.int .i64 (i:Int))) none none).run Try.prog W = .ok (.slice (some ⟨b,i * 3,none⟩) (n+1-i) (c-i)) W:=fun W=>by
    rw[Xl (P:=Try.prog) 24 56 .i64 Try.underlying24 B 3 hsz (some ⟨b,0,none⟩) (n+1) c (i:Int) (by omega) (by omega) W,Int.toNat_natCast,if_neg (by omega),Option.map_some,Z7]
  have hz2':¬ ((i:Int)=(n:Int)):=by omega
  have ζ :IntKind.i64.wrap ((i:Int)+1)=(i:Int)+1:=by rw[IntKind.wrap_i64];omega
  have L:(0:Int)≤(i:Int)+1:=by omega
  have η :((n:Int)+1≤(c:Int)):=by omega
  have θ :¬ ((c:Int)<(n:Int)+1):=by omega
  clear J hcur hsome hfz hsa hsb hsize hdl hdr B Z hsz X hh hcs ht hv hvs hvt
  go_enter Try.func63,Try.ntmps63
  go_wp2_with (simp only[hov])
  go_region_law (refine step_copy_runI rfl _ _ 24 24 rfl (.slice (some ⟨b,(i+1) * 3,none⟩) (n-i) (c - (i+1))) (.slice (some ⟨b,i * 3,none⟩) (n+1-i) (c-i)) (by simp[Act.eval,Act.put]) (by simp[Act.eval,Act.put]) (U _ _ _ _ _ (by omega)) ?_)
  go_wp2_with (at_builtin;refine wpList_copy_runI _ rfl _ _ 24 24 rfl (.slice (some ⟨b,i * 3,none⟩) (n+1-i) (c-i)) (.slice (some ⟨vb,0,none⟩) 1 vc) rfl rfl O ?_)
  go_ret
  exact⟨rfl,rfl⟩
abbrev encI:S62→List Value:=(fun x:S62=>[.int .i64 x.f0,.int .i64 x.f1])
set_option maxHeartbeats 4000000 in
set_option maxRecDepth 100000 in
theorem Wl (b n c i vb vc:Nat) (l:List S62) (x:S62) (w:World) (cur curv:Array Value) (hi:i<n) (hroom:n+1≤c) (γ:c≤9223372036854775807) (hvb:vb≠b) (hl:l.length=n)
    (hh:w.heap[b]?=some (.cells cur 62 (0,0))) (hcs:cur.size=c * 2) (ht:cur.toList.take (n * 2)=Zk encI l) (hv:w.heap[vb]?=some (.cells curv 62 (0,0))) (hvs:0<curv.size) (hvt:curv.toList.take 2=encI x):
    Calls Try.prog 60 #[.slice (some ⟨b,0,none⟩) n c,.int .i64 (i:Int),.slice (some ⟨vb,0,none⟩) 1 vc] w fun e w'=>
      e = .returned (.slice (some ⟨b,0,none⟩) (n+1) c)∧w'=(w.drew.setCells b ((i+1) * 2) (Zk encI (l.drop i))).setCells b (i * 2) (encI x):=by
  obtain⟨i0,B,Z,hsz,X⟩:=info_parts Yd
  have J:(Try.prog.info? 62).map (·.size)=some 2:=by rw[B];simp[hsz]
  have hcur:∀ j v,cur[j]?=some v→w.cell? ⟨b,j,none⟩=some v:=fun j v hj=>by rw[cell_of_row w b j cur 62 (0,0) hh];exact hj
  have hsome:∀ j,j<c * 2→(w.cell? ⟨b,j,none⟩).isSome=true:=fun j hj=>by rw[cell_of_row w b j cur 62 (0,0) hh];simp;omega
  have hfz:∀ j,w.frozen? ⟨b,j,none⟩=false:=fun j=>Q6 hh j
  have hsa:w.shape? vb=some (62,curv.size):=by simp[World.shape?,hv]
  have hsb:w.shape? b=some (62,cur.size):=by simp[World.shape?,hh]
  have hsize:∀ w,(sizeOf 62).run Try.prog w = .ok 2 w:=fun w=>by kernel_rfl
  have hov:∀ lb cb,(callFunc 68 #[.slice (some ⟨vb,0,none⟩) 1 vc,.slice (some ⟨b,(i+1) * 2,none⟩) lb cb]).run Try.prog w = .ok (.value (.bool false)) w:=fun lb cb=>by
    rw[run_callFunc_extern Try.func68 kr kr kr (e:=Extern.SlicesOverlaps.overlaps #[25,25] #[4]) kr,
      Lib.run_overlaps_apart w 25 4 62 Try.underlying25 2 hsize ⟨vb,0,none⟩ ⟨b,(i+1) * 2,none⟩ 1 vc lb cb hvb 62 62 curv.size cur.size hsa hsb (by omega) (Q6 hv _) (Q6 hv _)]
    rfl
  have hdl:(Zk encI (l.drop i)).length=(n-i) * 2:=by rw[Z6 X8,List.length_drop,hl];rfl
  have hdr:(Zk encI (l.drop i))=(cur.toList.take (n * 2)).drop (i * 2):=by rw[ht];exact(Jy X8 l i (by omega)).symm
  have U:∀ ty la dc lb sc,min lb la=n-i→(Builtin.copy_ #[25,25] ty #[.slice (some ⟨b,(i+1) * 2,none⟩) la dc,.slice (some ⟨b,i * 2,none⟩) lb sc]).run Try.prog w.drew = .ok (goInt (n-i:Nat)) (w.drew.setCells b ((i+1) * 2) (Zk encI (l.drop i))):=fun ty la dc lb sc hm=>by
    have:=Ym (P:=Try.prog) w.drew 25 25 ty 62 2 b ((i+1) * 2) la dc ⟨b,i * 2,none⟩ lb sc (Zk encI (l.drop i)) Try.underlying25 J (by rw[hdl,hm])
      (fun j v hj=>by
        have δ :=(List.getElem?_eq_some_iff.1 hj).1
        rw[hdr,List.getElem?_drop,List.getElem?_take] at hj
        split at hj
        · rw[Addr.add_lit]
          exact hcur (i * 2+j) v (by rw[← Array.getElem?_toList];exact hj)
        · cases hj)
      (fun j hj=>hsome _ (by rw[hdl] at hj;omega)) (fun j hj=>hfz _) (Kg X8 _)
    rw[hm] at this
    exact this
  obtain⟨W1,D⟩:∃ W1,W1=w.drew.setCells b ((i+1) * 2) (Zk encI (l.drop i)):=⟨_,rfl⟩
  have Y:∀ (W:World),(∀ x,W.cell? x=W1.cell? x)→(∀ x,W.frozen? x=W1.frozen? x) → ∀ ty la dc,1≤la→(Builtin.copy_ #[25,25] ty #[.slice (some ⟨b,i * 2,none⟩) la dc,.slice (some ⟨vb,0,none⟩) 1 vc]).run Try.prog W = .ok (goInt (1:Nat)) (W.setCells b (i * 2) (encI x)):=fun W hWc hWf ty la dc hla=>by
    have hm:min 1 la=1:=by omega
    have:=Ym (P:=Try.prog) W 25 25 ty 62 2 b (i * 2) la dc ⟨vb,0,none⟩ 1 vc (encI x) Try.underlying25 J (by rw[hm];rfl)
      (fun j v hj=>by
        rw[Addr.add_lit,hWc,D,World.cell?_setCells_out b _ _ _ _ (fun h _=>absurd h hvb)]
        rw[← hvt,List.getElem?_take] at hj
        split at hj
        · show w.cell? ⟨vb,0+j,none⟩=some v
          rw[Nat.zero_add,cell_of_row w vb j curv 62 (0,0) hv,← Array.getElem?_toList];exact hj
        · cases hj)
      (fun j hj=>by
        rw[hWc,D]
        have ε :j<2:=hj
        exact isSome_setCells b _ _ w.drew (fun q hq=>hsome ((i+1) * 2+q) (by rw[hdl] at hq;omega)) _ (hsome (i * 2+j) (by omega)))
      (fun j hj=>by rw[hWf,D,World.frozen?_setCells];exact hfz _) (X8.one x)
    rw[hm] at this
    exact this
  subst D
  have O:=Y _ (fun _=>rfl) (fun _=>rfl) 3 (n+1-i) (c-i) (by omega)
  have g1:∀ W:World,(Instr.slice 25 (.slice (some ⟨b,0,none⟩) n c) (some (.int .i64 (i:Int))) none none).run Try.prog W = .ok (.slice (some ⟨b,i * 2,none⟩) (n-i) (c-i)) W:=fun W=>by
    rw[Xl (P:=Try.prog) 25 62 .i64 Try.underlying25 B 2 hsz (some ⟨b,0,none⟩) n c (i:Int) (by omega) (by omega) W,Int.toNat_natCast,if_neg (by omega),Option.map_some,Z7]
  have I:∀ W:World,(Instr.slice 25 (.slice (some ⟨b,0,none⟩) n c) none (some (.int .i64 ((n:Int)+1))) none).run Try.prog W = .ok (.slice (some ⟨b,0,none⟩) (n+1) c) W:=fun W=>by
    have hel:Try.prog.elem 25=62:=by simp[Program.elem,Try.underlying25]
    rw[run_slice_h W 25 (some ⟨b,0,none⟩) n c (by rw[hel];exact Try.underlying25) .i64 ((n:Int)+1) (by omega) (by omega),hel]
    simp[sizeOf,typeInfo,B,sliced,Result.andThen,Addr.add]
  have g3:∀ W:World,(Instr.slice 25 (.slice (some ⟨b,0,none⟩) (n+1) c) (some (.int .i64 ((i:Int)+1))) none none).run Try.prog W = .ok (.slice (some ⟨b,(i+1) * 2,none⟩) (n+1 - (i+1)) (c - (i+1))) W:=fun W=>by
    rw[Xl (P:=Try.prog) 25 62 .i64 Try.underlying25 B 2 hsz (some ⟨b,0,none⟩) (n+1) c ((i:Int)+1) (by omega) (by omega) W,show((i:Int)+1).toNat=i+1 from by omega,if_neg (by omega),Option.map_some,Z7]
  have g4:∀ W:World,(Instr.slice 25 (.slice (some ⟨b,0,none⟩) (n+1) c) (some (.int .i64 (i:Int))) none none).run Try.prog W = .ok (.slice (some ⟨b,i * 2,none⟩) (n+1-i) (c-i)) W:=fun W=>by
    rw[Xl (P:=Try.prog) 25 62 .i64 Try.underlying25 B 2 hsz (some ⟨b,0,none⟩) (n+1) c (i:Int) (by omega) (by omega) W,Int.toNat_natCast,if_neg (by omega),Option.map_some,Z7]
  have hz2':¬ ((i:Int)=(n:Int)):=by omega
  have ζ :IntKind.i64.wrap ((i:Int)+1)=(i:Int)+1:=by rw[IntKind.wrap_i64];omega
  have L:(0:Int)≤(i:Int)+1:=by omega
  have η :((n:Int)+1≤(c:Int)):=by omega
  have θ :¬ ((c:Int)<(n:Int)+1):=by omega
  clear J hcur hsome hfz hsa hsb hsize hdl hdr B Z hsz X hh hcs ht hv hvs hvt
  go_enter Try.func60,Try.ntmps60
  go_wp2_with (simp only[hov])
  go_region_law (refine step_copy_runI rfl _ _ 25 25 rfl (.slice (some ⟨b,(i+1) * 2,none⟩) (n-i) (c - (i+1))) (.slice (some ⟨b,i * 2,none⟩) (n+1-i) (c-i)) (by simp[Act.eval,Act.put]) (by simp[Act.eval,Act.put]) (U _ _ _ _ _ (by omega)) ?_)
  go_wp2_with (at_builtin;refine wpList_copy_runI _ rfl _ _ 25 25 rfl (.slice (some ⟨b,i * 2,none⟩) (n+1-i) (c-i)) (.slice (some ⟨vb,0,none⟩) 1 vc) rfl rfl O ?_)
  go_ret
  exact⟨rfl,rfl⟩
section
variable {α : Type} {d : Kd α} {enc : α → List Value}
theorem Gn (F:Flat d enc) {e:TypeId} (w:World) (b i n:Nat) (cur:Array Value) (l:List α) (x:α) (hh:w.heap[b]?=some (.cells cur e (0,0))) (hl:l.length=n) (hi:i≤n) (hs:(n+1) * d.sz≤cur.size) (ht:cur.toList.take (i * d.sz)=Zk enc (l.take i)):
    ∃ cur',((w.setCells b (i * d.sz) (enc x)).drew.setCells b ((i+1) * d.sz) (Zk enc (l.drop i))).heap[b]?=some (.cells cur' e (0,0))∧cur'.size=cur.size∧cur'.toList.take ((n+1) * d.sz)=Zk enc (l.take i ++ [x]++l.drop i):=by
  have l1:(Zk enc (l.drop i)).length=(n-i) * d.sz:=by rw[Z6 F,List.length_drop,hl]
  have l0:(Zk enc (l.take i)).length=i * d.sz:=by rw[Z6 F,List.length_take,hl,Nat.min_eq_left hi]
  have Z:(i+1) * d.sz+(n-i) * d.sz=(n+1) * d.sz:=by rw[← Nat.add_mul];congr 1;omega
  have e2:(i+1) * d.sz=i * d.sz+d.sz:=by rw[Nat.add_mul,Nat.one_mul]
  obtain⟨B,L,a2,X⟩:=Xz (enc x) (i * d.sz) w cur hh (by rw[F.len,← e2];omega)
  obtain⟨D,U,Y,b3⟩:=Xz (Zk enc (l.drop i)) ((i+1) * d.sz) ((w.setCells b (i * d.sz) (enc x)).drew) B L (by rw[l1,Z,a2];exact hs)
  refine⟨D,U,by rw[Y,a2], ?_⟩
  have hcl:cur.toList.length=cur.size:=by simp
  have I:B.toList.take ((i+1) * d.sz)=Zk enc (l.take i)++enc x:=by
    rw[X,ht,List.take_left' (by rw[List.length_append,l0,F.len,e2])]
  rw[b3,I,List.append_assoc _ (Zk enc (l.drop i)) _,← List.append_assoc,List.append_assoc _ (enc x)]
  rw[List.take_append_of_le_length (by simp only[List.length_append,l0,l1,F.len];rw[← Z,e2];omega),List.take_of_length_le (by simp only[List.length_append,l0,l1,F.len];rw[← Z,e2];omega)]
  rw[Yc,Yc]
  simp[Zk]
end
set_option maxHeartbeats 4000000 in
set_option maxRecDepth 100000 in
theorem Lw (b n c i vb vc:Nat) (l:List S56) (x:S56) (w:World) (cur curv:Array Value) (hi:i<n) (hnc:n≤c) (hroom:c<n+1) (hbig:n≤1000000000) (hvb:vb≠b) (hl:l.length=n)
    (hh:w.heap[b]?=some (.cells cur 56 (0,0))) (hcs:cur.size=c * 3) (ht:cur.toList.take (n * 3)=Zk Xv l) (hv:w.heap[vb]?=some (.cells curv 56 (0,0))) (hvs:0<curv.size) (hvt:curv.toList.take 3=Xv x):
    Calls Try.prog 63 #[.slice (some ⟨b,0,none⟩) n c,.int .i64 (i:Int),.slice (some ⟨vb,0,none⟩) 1 vc] w fun e w'=>
      e = .returned (.slice (some ⟨w.heap.size,0,none⟩) (n+1) (grownCap w (n+1) c 56)) ∧
      w'=(((w.alloc (.cells ((Zk Xv (l.take i)).toArray++Builtin.zeroCells (Value.agg #[(.int .i64 0),(.int .i64 0),(.int .i64 0)]).cells (n+1-i)++Builtin.zeroCells (Value.agg #[(.int .i64 0),(.int .i64 0),(.int .i64 0)]).cells (grownCap w (n+1) c 56 - (n+1))) 56)).drew.setCells w.heap.size (i * 3) (Xv x)).drew).setCells w.heap.size ((i+1) * 3) (Zk Xv (l.drop i)):=by
  obtain⟨i0,B,Z,hsz,X⟩:=info_parts Xr
  have J:(Try.prog.info? 56).map (·.size)=some 3:=by rw[B];simp[hsz]
  have hcur:∀ j v,cur[j]?=some v→w.cell? ⟨b,j,none⟩=some v:=fun j v hj=>by rw[cell_of_row w b j cur 56 (0,0) hh];exact hj
  have hbw:b<w.heap.size:=Q3 hh
  have hvw:vb<w.heap.size:=Q3 hv
  have hkk:(n:Int)+1 - (i:Int)=((n+1-i:Nat):Int):=by omega
  have hik:i+(n+1-i)=n+1:=by omega
  have htl:(Zk Xv (l.take i)).length=i * 3:=by rw[Z6 X9,List.length_take,hl,Nat.min_eq_left (by omega)];rfl
  have hdl:(Zk Xv (l.drop i)).length=(n-i) * 3:=by rw[Z6 X9,List.length_drop,hl];rfl
  have htk:Zk Xv (l.take i)=(cur.toList.take (n * 3)).take (i * 3):=by rw[ht];exact(Jb X9 l i (by omega)).symm
  have hdr:Zk Xv (l.drop i)=(cur.toList.take (n * 3)).drop (i * 3):=by rw[ht];exact(Jy X9 l i (by omega)).symm
  have hold:(Builtin.firstCells i0.size i (.slice (some ⟨b,0,none⟩) i c)).run Try.prog w.drew = .ok (Zk Xv (l.take i)).toArray w.drew:=by
    rw[hsz]
    exact run_firstCells_some (w:=w.drew) 3 i ⟨b,0,none⟩ i c (Zk Xv (l.take i)) htl (fun j v hj=>by
      rw[Z7]
      rw[htk,List.getElem?_take,List.getElem?_take] at hj
      split at hj
      · split at hj
        · exact hcur j v (by rw[← Array.getElem?_toList];exact hj)
        · cases hj
      · cases hj)
  have hrz:∀ ty,(Builtin.append_ #[24,3] ty #[.slice (some ⟨b,0,none⟩) i c,.int .i64 ((n:Int)+1 - (i:Int))]).run Try.prog w =
      .ok (.slice (some ⟨w.heap.size,0,none⟩) (n+1) (grownCap w (n+1) c 56)) (w.drew.alloc (.cells ((Zk Xv (l.take i)).toArray++Builtin.zeroCells (Value.agg #[(.int .i64 0),(.int .i64 0),(.int .i64 0)]).cells (n+1-i)++Builtin.zeroCells (Value.agg #[(.int .i64 0),(.int .i64 0),(.int .i64 0)]).cells (grownCap w (n+1) c 56 - (n+1))) 56)):=fun ty=>by
    have h:=Lib.run_append_grow_zeros (P:=Try.prog) w 24 3 ty 56 i0 _ .i64 .i64 Try.underlying24 Try.underlying3 B Z (some ⟨b,0,none⟩) i c (Zk Xv (l.take i)) hold (n+1-i) (by omega) (by rw[hsz];omega) (by omega) (by omega) (by rw[X];omega) (by rw[X,hik];exact growslice_fits (by omega) (by omega))
    rw[hik] at h
    rw[hkk]
    exact h
  obtain⟨G,hG⟩:∃ G,G=grownCap w (n+1) c 56:=⟨_,rfl⟩
  obtain⟨ROW,hROW⟩:∃ ROW:Array Value,ROW=(Zk Xv (l.take i)).toArray++Builtin.zeroCells (Value.agg #[(.int .i64 0),(.int .i64 0),(.int .i64 0)]).cells (n+1-i)++Builtin.zeroCells (Value.agg #[(.int .i64 0),(.int .i64 0),(.int .i64 0)]).cells (G - (n+1)):=⟨_,rfl⟩
  rw[← hG] at hrz ⊢
  rw[← hROW] at hrz ⊢
  have hRl:(n+1) * 3≤ROW.size:=by
    rw[hROW]
    simp only[Array.size_append,size_zeroCells,List.size_toArray,htl]
    show(n+1) * 3≤i * 3+(n+1-i) * 3+(G - (n+1)) * 3
    omega
  obtain⟨W1,D⟩:∃ W1,W1=w.drew.alloc (.cells ROW 56):=⟨_,rfl⟩
  rw[← D] at hrz
  have hN:∀ j,j<(n+1) * 3→(W1.cell? ⟨w.heap.size,j,none⟩).isSome=true:=fun j hj=>by
    rw[D,World.cell?_alloc_at (w:=w.drew) ROW _ w.heap.size j rfl,Array.getElem?_eq_getElem (by omega)];rfl
  have hNf:∀ j,W1.frozen? ⟨w.heap.size,j,none⟩=false:=fun j=>by rw[D];exact World.frozen?_alloc_at (w:=w.drew) ROW _ w.heap.size j rfl
  have hOb:∀ j v,w.cell? ⟨b,j,none⟩=some v→W1.cell? ⟨b,j,none⟩=some v:=fun j v h=>by rw[D,World.cell?_alloc_past (w:=w.drew) _ b j hbw];exact h
  have hOv:∀ j v,w.cell? ⟨vb,j,none⟩=some v→W1.cell? ⟨vb,j,none⟩=some v:=fun j v h=>by rw[D,World.cell?_alloc_past (w:=w.drew) _ vb j hvw];exact h
  have hcpA:∀ (W:World),(∀ x,W.cell? x=W1.cell? x)→(∀ x,W.frozen? x=W1.frozen? x) → ∀ ty la dc,1≤la→(Builtin.copy_ #[24,24] ty #[.slice (some ⟨w.heap.size,i * 3,none⟩) la dc,.slice (some ⟨vb,0,none⟩) 1 vc]).run Try.prog W = .ok (goInt (1:Nat)) (W.setCells w.heap.size (i * 3) (Xv x)):=fun W hWc hWf ty la dc hla=>by
    have hm:min 1 la=1:=by omega
    have:=Ym (P:=Try.prog) W 24 24 ty 56 3 w.heap.size (i * 3) la dc ⟨vb,0,none⟩ 1 vc (Xv x) Try.underlying24 J (by rw[hm];rfl)
      (fun j v hj=>by
        rw[Z7,hWc]
        rw[← hvt,List.getElem?_take] at hj
        split at hj
        · exact hOv j v (by rw[cell_of_row w vb j curv 56 (0,0) hv,← Array.getElem?_toList];exact hj)
        · cases hj)
      (fun j hj=>by
        rw[hWc]
        have ε :j<3:=hj
        exact hN (i * 3+j) (by omega))
      (fun j hj=>by rw[hWf];exact hNf _) (X9.one x)
    rw[hm] at this
    exact this
  have Y:n+1≤G:=by rw[hG];exact grownCap_ge w _ _ _
  have η :G≤9223372036854775807:=by
    have:=grownCap_le_maxLen w (n+1) c 56 (by unfold maxLen;omega)
    rw[← hG] at this
    unfold maxLen at this
    omega
  have hbN:b≠w.heap.size:=by omega
  have hcpB:∀ (W:World),(∀ y,W.cell? y=(W1.setCells w.heap.size (i * 3) (Xv x)).cell? y)→(∀ y,W.frozen? y=(W1.setCells w.heap.size (i * 3) (Xv x)).frozen? y) → ∀ ty la dc lb sc,min lb la=n-i→(Builtin.copy_ #[24,24] ty #[.slice (some ⟨w.heap.size,(i+1) * 3,none⟩) la dc,.slice (some ⟨b,i * 3,none⟩) lb sc]).run Try.prog W = .ok (goInt (n-i:Nat)) (W.setCells w.heap.size ((i+1) * 3) (Zk Xv (l.drop i))):=fun W hWc hWf ty la dc lb sc hm=>by
    have:=Ym (P:=Try.prog) W 24 24 ty 56 3 w.heap.size ((i+1) * 3) la dc ⟨b,i * 3,none⟩ lb sc (Zk Xv (l.drop i)) Try.underlying24 J (by rw[hdl,hm])
      (fun j v hj=>by
        rw[hdr,List.getElem?_drop,List.getElem?_take] at hj
        split at hj
        · rw[Addr.add_lit,hWc,World.cell?_setCells_out _ _ _ _ _ (fun h _=>absurd h hbN)]
          exact hOb _ v (hcur (i * 3+j) v (by rw[← Array.getElem?_toList];exact hj))
        · cases hj)
      (fun j hj=>by
        rw[hWc]
        rw[hdl] at hj
        exact isSome_setCells _ _ _ W1 (fun q hq=>hN (i * 3+q) (by have:q<3:=hq;omega)) ((i+1) * 3+j) (hN ((i+1) * 3+j) (by omega)))
      (fun j hj=>by rw[hWf,World.frozen?_setCells];exact hNf _) (Kg X9 _)
    rw[hm] at this
    exact this
  subst D
  have U:∀ x,((w.alloc (.cells ROW 56)).drew).cell? x=(w.drew.alloc (.cells ROW 56)).cell? x:=fun x=>rfl
  have γ:∀ x,((w.alloc (.cells ROW 56)).drew).frozen? x=(w.drew.alloc (.cells ROW 56)).frozen? x:=fun x=>rfl
  have O:=hcpA _ U γ 3 (n+1-i) (G-i) (by omega)
  have δ :=hcpB ((w.alloc (.cells ROW 56)).drew.setCells w.heap.size (i * 3) (Xv x)).drew (fun x=>rfl) (fun x=>rfl) 3 (n-i) (G - (i+1)) (n-i) (c-i) (by omega)
  have g1:∀ W:World,(Instr.slice 24 (.slice (some ⟨b,0,none⟩) n c) (some (.int .i64 (i:Int))) none none).run Try.prog W = .ok (.slice (some ⟨b,i * 3,none⟩) (n-i) (c-i)) W:=fun W=>by
    rw[Xl (P:=Try.prog) 24 56 .i64 Try.underlying24 B 3 hsz (some ⟨b,0,none⟩) n c (i:Int) (by omega) (by omega) W,Int.toNat_natCast,if_neg (by omega),Option.map_some,Z7]
  have I:∀ W:World,(Instr.slice 24 (.slice (some ⟨b,0,none⟩) n c) none (some (.int .i64 (i:Int))) none).run Try.prog W = .ok (.slice (some ⟨b,0,none⟩) i c) W:=fun W=>by
    have hel:Try.prog.elem 24=56:=by simp[Program.elem,Try.underlying24]
    rw[run_slice_h W 24 (some ⟨b,0,none⟩) n c (by rw[hel];exact Try.underlying24) .i64 (i:Int) (by omega) (by omega),hel]
    simp[sizeOf,typeInfo,B,sliced,Result.andThen,Addr.add]
  have g3:∀ W:World,(Instr.slice 24 (.slice (some ⟨w.heap.size,0,none⟩) (n+1) G) (some (.int .i64 (i:Int))) none none).run Try.prog W = .ok (.slice (some ⟨w.heap.size,i * 3,none⟩) (n+1-i) (G-i)) W:=fun W=>by
    rw[Xl (P:=Try.prog) 24 56 .i64 Try.underlying24 B 3 hsz (some ⟨w.heap.size,0,none⟩) (n+1) G (i:Int) (by omega) (by omega) W,Int.toNat_natCast,if_neg (by omega),Option.map_some,Z7]
  have g4:∀ W:World,(Instr.slice 24 (.slice (some ⟨w.heap.size,0,none⟩) (n+1) G) (some (.int .i64 ((i:Int)+1))) none none).run Try.prog W = .ok (.slice (some ⟨w.heap.size,(i+1) * 3,none⟩) (n-i) (G - (i+1))) W:=fun W=>by
    rw[Xl (P:=Try.prog) 24 56 .i64 Try.underlying24 B 3 hsz (some ⟨w.heap.size,0,none⟩) (n+1) G ((i:Int)+1) (by omega) (by omega) W,show((i:Int)+1).toNat=i+1 from by omega,if_neg (by omega),Option.map_some,Z7,show n+1 - (i+1)=n-i from by omega]
  have hz2':¬ ((i:Int)=(n:Int)):=by omega
  have θ :(c:Int)<(n:Int)+1:=by omega
  have ζ :IntKind.i64.wrap ((i:Int)+1)=(i:Int)+1:=by rw[IntKind.wrap_i64];omega
  have L:(0:Int)≤(i:Int)+1:=by omega
  clear hcpA hcpB hN hNf hOb hOv U γ hkk hik hold hROW hG hRl J hcur hdl hdr htl htk B Z hsz X hh hcs ht hv hvs hvt
  go_enter Try.func63,Try.ntmps63
  go_wp2_with (first
    |(at_builtin;refine Lib.wpList_append_run _ rfl _ _ _ _ rfl _ _ rfl rfl _ _ (hrz _) ?_)
    |(at_builtin;refine wpList_copy_runI _ rfl _ _ 24 24 rfl (.slice (some ⟨w.heap.size,i * 3,none⟩) (n+1-i) (G-i)) (.slice (some ⟨vb,0,none⟩) 1 vc) rfl rfl O ?_))
  go_region_law (refine step_copy_runI rfl _ _ 24 24 rfl (.slice (some ⟨w.heap.size,(i+1) * 3,none⟩) (n-i) (G - (i+1))) (.slice (some ⟨b,i * 3,none⟩) (n-i) (c-i)) (by simp[Act.eval,Act.put]) (by simp[Act.eval,Act.put]) δ ?_)
  go_wp2
  go_ret
  exact⟨rfl,rfl⟩
set_option maxHeartbeats 4000000 in
set_option maxRecDepth 100000 in
theorem Lu (b n c i vb vc:Nat) (l:List S62) (x:S62) (w:World) (cur curv:Array Value) (hi:i<n) (hnc:n≤c) (hroom:c<n+1) (hbig:n≤1000000000) (hvb:vb≠b) (hl:l.length=n)
    (hh:w.heap[b]?=some (.cells cur 62 (0,0))) (hcs:cur.size=c * 2) (ht:cur.toList.take (n * 2)=Zk encI l) (hv:w.heap[vb]?=some (.cells curv 62 (0,0))) (hvs:0<curv.size) (hvt:curv.toList.take 2=encI x):
    Calls Try.prog 60 #[.slice (some ⟨b,0,none⟩) n c,.int .i64 (i:Int),.slice (some ⟨vb,0,none⟩) 1 vc] w fun e w'=>
      e = .returned (.slice (some ⟨w.heap.size,0,none⟩) (n+1) (grownCap w (n+1) c 62)) ∧
      w'=(((w.alloc (.cells ((Zk encI (l.take i)).toArray++Builtin.zeroCells (Value.agg #[(.int .i64 0),(.int .i64 0)]).cells (n+1-i)++Builtin.zeroCells (Value.agg #[(.int .i64 0),(.int .i64 0)]).cells (grownCap w (n+1) c 62 - (n+1))) 62)).drew.setCells w.heap.size (i * 2) (encI x)).drew).setCells w.heap.size ((i+1) * 2) (Zk encI (l.drop i)):=by
  obtain⟨i0,B,Z,hsz,X⟩:=info_parts Yd
  have J:(Try.prog.info? 62).map (·.size)=some 2:=by rw[B];simp[hsz]
  have hcur:∀ j v,cur[j]?=some v→w.cell? ⟨b,j,none⟩=some v:=fun j v hj=>by rw[cell_of_row w b j cur 62 (0,0) hh];exact hj
  have hbw:b<w.heap.size:=Q3 hh
  have hvw:vb<w.heap.size:=Q3 hv
  have hkk:(n:Int)+1 - (i:Int)=((n+1-i:Nat):Int):=by omega
  have hik:i+(n+1-i)=n+1:=by omega
  have htl:(Zk encI (l.take i)).length=i * 2:=by rw[Z6 X8,List.length_take,hl,Nat.min_eq_left (by omega)];rfl
  have hdl:(Zk encI (l.drop i)).length=(n-i) * 2:=by rw[Z6 X8,List.length_drop,hl];rfl
  have htk:Zk encI (l.take i)=(cur.toList.take (n * 2)).take (i * 2):=by rw[ht];exact(Jb X8 l i (by omega)).symm
  have hdr:Zk encI (l.drop i)=(cur.toList.take (n * 2)).drop (i * 2):=by rw[ht];exact(Jy X8 l i (by omega)).symm
  have hold:(Builtin.firstCells i0.size i (.slice (some ⟨b,0,none⟩) i c)).run Try.prog w.drew = .ok (Zk encI (l.take i)).toArray w.drew:=by
    rw[hsz]
    exact run_firstCells_some (w:=w.drew) 2 i ⟨b,0,none⟩ i c (Zk encI (l.take i)) htl (fun j v hj=>by
      rw[Z7]
      rw[htk,List.getElem?_take,List.getElem?_take] at hj
      split at hj
      · split at hj
        · exact hcur j v (by rw[← Array.getElem?_toList];exact hj)
        · cases hj
      · cases hj)
  have hrz:∀ ty,(Builtin.append_ #[25,3] ty #[.slice (some ⟨b,0,none⟩) i c,.int .i64 ((n:Int)+1 - (i:Int))]).run Try.prog w =
      .ok (.slice (some ⟨w.heap.size,0,none⟩) (n+1) (grownCap w (n+1) c 62)) (w.drew.alloc (.cells ((Zk encI (l.take i)).toArray++Builtin.zeroCells (Value.agg #[(.int .i64 0),(.int .i64 0)]).cells (n+1-i)++Builtin.zeroCells (Value.agg #[(.int .i64 0),(.int .i64 0)]).cells (grownCap w (n+1) c 62 - (n+1))) 62)):=fun ty=>by
    have h:=Lib.run_append_grow_zeros (P:=Try.prog) w 25 3 ty 62 i0 _ .i64 .i64 Try.underlying25 Try.underlying3 B Z (some ⟨b,0,none⟩) i c (Zk encI (l.take i)) hold (n+1-i) (by omega) (by rw[hsz];omega) (by omega) (by omega) (by rw[X];omega) (by rw[X,hik];exact growslice_fits (by omega) (by omega))
    rw[hik] at h
    rw[hkk]
    exact h
  obtain⟨G,hG⟩:∃ G,G=grownCap w (n+1) c 62:=⟨_,rfl⟩
  obtain⟨ROW,hROW⟩:∃ ROW:Array Value,ROW=(Zk encI (l.take i)).toArray++Builtin.zeroCells (Value.agg #[(.int .i64 0),(.int .i64 0)]).cells (n+1-i)++Builtin.zeroCells (Value.agg #[(.int .i64 0),(.int .i64 0)]).cells (G - (n+1)):=⟨_,rfl⟩
  rw[← hG] at hrz ⊢
  rw[← hROW] at hrz ⊢
  have hRl:(n+1) * 2≤ROW.size:=by
    rw[hROW]
    simp only[Array.size_append,size_zeroCells,List.size_toArray,htl]
    show(n+1) * 2≤i * 2+(n+1-i) * 2+(G - (n+1)) * 2
    omega
  obtain⟨W1,D⟩:∃ W1,W1=w.drew.alloc (.cells ROW 62):=⟨_,rfl⟩
  rw[← D] at hrz
  have hN:∀ j,j<(n+1) * 2→(W1.cell? ⟨w.heap.size,j,none⟩).isSome=true:=fun j hj=>by
    rw[D,World.cell?_alloc_at (w:=w.drew) ROW _ w.heap.size j rfl,Array.getElem?_eq_getElem (by omega)];rfl
  have hNf:∀ j,W1.frozen? ⟨w.heap.size,j,none⟩=false:=fun j=>by rw[D];exact World.frozen?_alloc_at (w:=w.drew) ROW _ w.heap.size j rfl
  have hOb:∀ j v,w.cell? ⟨b,j,none⟩=some v→W1.cell? ⟨b,j,none⟩=some v:=fun j v h=>by rw[D,World.cell?_alloc_past (w:=w.drew) _ b j hbw];exact h
  have hOv:∀ j v,w.cell? ⟨vb,j,none⟩=some v→W1.cell? ⟨vb,j,none⟩=some v:=fun j v h=>by rw[D,World.cell?_alloc_past (w:=w.drew) _ vb j hvw];exact h
  have hcpA:∀ (W:World),(∀ x,W.cell? x=W1.cell? x)→(∀ x,W.frozen? x=W1.frozen? x) → ∀ ty la dc,1≤la→(Builtin.copy_ #[25,25] ty #[.slice (some ⟨w.heap.size,i * 2,none⟩) la dc,.slice (some ⟨vb,0,none⟩) 1 vc]).run Try.prog W = .ok (goInt (1:Nat)) (W.setCells w.heap.size (i * 2) (encI x)):=fun W hWc hWf ty la dc hla=>by
    have hm:min 1 la=1:=by omega
    have:=Ym (P:=Try.prog) W 25 25 ty 62 2 w.heap.size (i * 2) la dc ⟨vb,0,none⟩ 1 vc (encI x) Try.underlying25 J (by rw[hm];rfl)
      (fun j v hj=>by
        rw[Z7,hWc]
        rw[← hvt,List.getElem?_take] at hj
        split at hj
        · exact hOv j v (by rw[cell_of_row w vb j curv 62 (0,0) hv,← Array.getElem?_toList];exact hj)
        · cases hj)
      (fun j hj=>by
        rw[hWc]
        have ε :j<2:=hj
        exact hN (i * 2+j) (by omega))
      (fun j hj=>by rw[hWf];exact hNf _) (X8.one x)
    rw[hm] at this
    exact this
  have Y:n+1≤G:=by rw[hG];exact grownCap_ge w _ _ _
  have η :G≤9223372036854775807:=by
    have:=grownCap_le_maxLen w (n+1) c 62 (by unfold maxLen;omega)
    rw[← hG] at this
    unfold maxLen at this
    omega
  have hbN:b≠w.heap.size:=by omega
  have hcpB:∀ (W:World),(∀ y,W.cell? y=(W1.setCells w.heap.size (i * 2) (encI x)).cell? y)→(∀ y,W.frozen? y=(W1.setCells w.heap.size (i * 2) (encI x)).frozen? y) → ∀ ty la dc lb sc,min lb la=n-i→(Builtin.copy_ #[25,25] ty #[.slice (some ⟨w.heap.size,(i+1) * 2,none⟩) la dc,.slice (some ⟨b,i * 2,none⟩) lb sc]).run Try.prog W = .ok (goInt (n-i:Nat)) (W.setCells w.heap.size ((i+1) * 2) (Zk encI (l.drop i))):=fun W hWc hWf ty la dc lb sc hm=>by
    have:=Ym (P:=Try.prog) W 25 25 ty 62 2 w.heap.size ((i+1) * 2) la dc ⟨b,i * 2,none⟩ lb sc (Zk encI (l.drop i)) Try.underlying25 J (by rw[hdl,hm])
      (fun j v hj=>by
        rw[hdr,List.getElem?_drop,List.getElem?_take] at hj
        split at hj
        · rw[Addr.add_lit,hWc,World.cell?_setCells_out _ _ _ _ _ (fun h _=>absurd h hbN)]
          exact hOb _ v (hcur (i * 2+j) v (by rw[← Array.getElem?_toList];exact hj))
        · cases hj)
      (fun j hj=>by
        rw[hWc]
        rw[hdl] at hj
        exact isSome_setCells _ _ _ W1 (fun q hq=>hN (i * 2+q) (by have:q<2:=hq;omega)) ((i+1) * 2+j) (hN ((i+1) * 2+j) (by omega)))
      (fun j hj=>by rw[hWf,World.frozen?_setCells];exact hNf _) (Kg X8 _)
    rw[hm] at this
    exact this
  subst D
  have U:∀ x,((w.alloc (.cells ROW 62)).drew).cell? x=(w.drew.alloc (.cells ROW 62)).cell? x:=fun x=>rfl
  have γ:∀ x,((w.alloc (.cells ROW 62)).drew).frozen? x=(w.drew.alloc (.cells ROW 62)).frozen? x:=fun x=>rfl
  have O:=hcpA _ U γ 3 (n+1-i) (G-i) (by omega)
  have δ :=hcpB ((w.alloc (.cells ROW 62)).drew.setCells w.heap.size (i * 2) (encI x)).drew (fun x=>rfl) (fun x=>rfl) 3 (n-i) (G - (i+1)) (n-i) (c-i) (by omega)
  have g1:∀ W:World,(Instr.slice 25 (.slice (some ⟨b,0,none⟩) n c) (some (.int .i64 (i:Int))) none none).run Try.prog W = .ok (.slice (some ⟨b,i * 2,none⟩) (n-i) (c-i)) W:=fun W=>by
    rw[Xl (P:=Try.prog) 25 62 .i64 Try.underlying25 B 2 hsz (some ⟨b,0,none⟩) n c (i:Int) (by omega) (by omega) W,Int.toNat_natCast,if_neg (by omega),Option.map_some,Z7]
  have I:∀ W:World,(Instr.slice 25 (.slice (some ⟨b,0,none⟩) n c) none (some (.int .i64 (i:Int))) none).run Try.prog W = .ok (.slice (some ⟨b,0,none⟩) i c) W:=fun W=>by
    have hel:Try.prog.elem 25=62:=by simp[Program.elem,Try.underlying25]
    rw[run_slice_h W 25 (some ⟨b,0,none⟩) n c (by rw[hel];exact Try.underlying25) .i64 (i:Int) (by omega) (by omega),hel]
    simp[sizeOf,typeInfo,B,sliced,Result.andThen,Addr.add]
  have g3:∀ W:World,(Instr.slice 25 (.slice (some ⟨w.heap.size,0,none⟩) (n+1) G) (some (.int .i64 (i:Int))) none none).run Try.prog W = .ok (.slice (some ⟨w.heap.size,i * 2,none⟩) (n+1-i) (G-i)) W:=fun W=>by
    rw[Xl (P:=Try.prog) 25 62 .i64 Try.underlying25 B 2 hsz (some ⟨w.heap.size,0,none⟩) (n+1) G (i:Int) (by omega) (by omega) W,Int.toNat_natCast,if_neg (by omega),Option.map_some,Z7]
  have g4:∀ W:World,(Instr.slice 25 (.slice (some ⟨w.heap.size,0,none⟩) (n+1) G) (some (.int .i64 ((i:Int)+1))) none none).run Try.prog W = .ok (.slice (some ⟨w.heap.size,(i+1) * 2,none⟩) (n-i) (G - (i+1))) W:=fun W=>by
    rw[Xl (P:=Try.prog) 25 62 .i64 Try.underlying25 B 2 hsz (some ⟨w.heap.size,0,none⟩) (n+1) G ((i:Int)+1) (by omega) (by omega) W,show((i:Int)+1).toNat=i+1 from by omega,if_neg (by omega),Option.map_some,Z7,show n+1 - (i+1)=n-i from by omega]
  have hz2':¬ ((i:Int)=(n:Int)):=by omega
  have θ :(c:Int)<(n:Int)+1:=by omega
  have ζ :IntKind.i64.wrap ((i:Int)+1)=(i:Int)+1:=by rw[IntKind.wrap_i64];omega
  have L:(0:Int)≤(i:Int)+1:=by omega
  clear hcpA hcpB hN hNf hOb hOv U γ hkk hik hold hROW hG hRl J hcur hdl hdr htl htk B Z hsz X hh hcs ht hv hvs hvt
  go_enter Try.func60,Try.ntmps60
  go_wp2_with (first
    |(at_builtin;refine Lib.wpList_append_run _ rfl _ _ _ _ rfl _ _ rfl rfl _ _ (hrz _) ?_)
    |(at_builtin;refine wpList_copy_runI _ rfl _ _ 25 25 rfl (.slice (some ⟨w.heap.size,i * 2,none⟩) (n+1-i) (G-i)) (.slice (some ⟨vb,0,none⟩) 1 vc) rfl rfl O ?_))
  go_region_law (refine step_copy_runI rfl _ _ 25 25 rfl (.slice (some ⟨w.heap.size,(i+1) * 2,none⟩) (n-i) (G - (i+1))) (.slice (some ⟨b,i * 2,none⟩) (n-i) (c-i)) (by simp[Act.eval,Act.put]) (by simp[Act.eval,Act.put]) δ ?_)
  go_wp2
  go_ret
  exact⟨rfl,rfl⟩
theorem Xb {B g:Nat} {w0 w:World} (hb:Below B w0 w) (hg:B≤g):∀ (vs:List Value) (o:Nat) {w:World},Below B w0 w→Below B w0 (w.setCells g o vs)
  | [],_,_,h=>h
  |v :: r,o,_,h=>Xb hb hg r (o+1) (h.setCell (p:=⟨g,o,none⟩) hg v)
theorem Gp (w:World) (g D B:Nat) (v1 v2:List Value):w.grownBy ((w.drew.setCells g D v1).setCells g B v2) (some g):=by
  obtain⟨s1,s2,s3,s4⟩:=Yg g v1 D w.drew
  obtain⟨I,J,L,O⟩:=Yg g v2 B (w.drew.setCells g D v1)
  exact⟨I.trans s1,J.trans s2,L.trans s3,by rw[O,s4];exact Nat.le_refl _,fun k _ hk=>(Yo _ _ k (fun he=>hk (by rw[he]))).trans (Yo (w:=w.drew) _ _ k (fun he=>hk (by rw[he])))⟩
theorem Jz {B:Nat} {w:World} (hB:B≤w.heap.size) (o:Obj):Below B w (w.alloc o):=(Below.refl B w).alloc hB o
set_option maxHeartbeats 4000000 in
set_option maxRecDepth 100000 in
theorem Mw (w:World) (base:Nat) (ok:Nat→Prop) (A:Option Addr) (c:Nat) (l:List S56) (x:S56) (vb vc:Nat) (curv:Array Value) (hbase:base≤w.heap.size) (hfresh:∀ k,w.heap.size≤k→ok k)
    (HO:Kd.R k56 56 w base ok (.slice A l.length c) l) (hnc:l.length≤c) (hl:l.length≤1000000000)
    (hv:w.heap[vb]?=some (.cells curv 56 (0,0))) (hvs:0<curv.size) (hvt:curv.toList.take 3=Xv x):
    Calls Try.prog 63 #[.slice A l.length c,.int .i64 (l.length:Int),.slice (some ⟨vb,0,none⟩) 1 vc] w fun e w'=>
      ∃ v1:Value,e = .returned v1∧Kd.R k56 56 w' base ok v1 (l ++ [x])∧Below base w w'∧w.grownBy w' (Value.slice A l.length c).ownBlock∧(v1.ownBlock=(Value.slice A l.length c).ownBlock ∨ ∃ b,v1.ownBlock=some b∧w.heap.size≤b):=by
  obtain⟨i0,B,Z,hsz,X⟩:=info_parts Xr
  obtain⟨sv,g1⟩:∃ sv,∀ W:World,(Instr.slice 24 (.slice A l.length c) (some (.int .i64 (l.length:Int))) none none).run Try.prog W = .ok sv W:=⟨_,fun W=>Xl (P:=Try.prog) 24 56 .i64 Try.underlying24 B 3 hsz A l.length c (l.length:Int) (by omega) (by omega) W⟩
  have HR:Xg (fun p cs=>cs=Xv p) 3 w (some ⟨vb,0,none⟩) 1 [x]:=by
    refine⟨rfl,by decide,fun _=>⟨_,rfl,fun j p hj=>⟨Xv p,rfl,rfl,fun q u hu=>?_⟩⟩⟩
    have D:j<1:=(List.getElem?_eq_some_iff.1 hj).1
    obtain rfl:j=0:=by omega
    obtain rfl:x=p:=by simpa using hj
    rw[Z7,Nat.zero_mul,Nat.zero_add,cell_of_row w vb q curv 56 (0,0) hv,← Array.getElem?_toList]
    rw[← hvt,List.getElem?_take] at hu
    split at hu
    · exact hu
    · cases hu
  go_enter Try.func63,Try.ntmps63
  go_wp2_with (at_builtin;refine Kd.Yv k56 (w0:=w) base rfl (.tmp 23) (.tmp 24) 24 56 (Value.agg #[(.int .i64 0),(.int .i64 0),(.int .i64 0)]) 24 rfl Try.underlying24 Xr rfl (by decide) (by decide) (.slice A l.length c) l [x] _ _ _ ok (fun _=>False) rfl rfl HO HR (fun _ _ h=>(X9.M _ _ _ _ _).2 h) (fun _ h=>h.elim) hfresh (Below.refl _ _) hbase (by omega) ?_)
  intro v1 w1 h1 O L Y
  go_wp2
  go_ret
  exact⟨_,rfl,h1,O,L,Y⟩
theorem Wo (w:World) (base:Nat) (ok:Nat→Prop) (A:Option Addr) (c:Nat) (l:List S56) (x:S56) (i:Int) (vb vc:Nat) (curv:Array Value) (hbase:base≤w.heap.size) (hfresh:∀ k,w.heap.size≤k→ok k)
    (HO:Kd.R k56 56 w base ok (.slice A l.length c) l) (hvb:∀ a,A=some a→vb≠a.block) (hl:l.length≤1000000000)
    (hv:w.heap[vb]?=some (.cells curv 56 (0,0))) (hvs:0<curv.size) (hvt:curv.toList.take 3=Xv x) (U:0≤i) (hi:i≤(l.length:Int)):
    Calls Try.prog 63 #[.slice A l.length c,.int .i64 i,.slice (some ⟨vb,0,none⟩) 1 vc] w fun e w'=>
      ∃ v1:Value,e = .returned v1∧Kd.R k56 56 w' base ok v1 (l.take i.toNat ++ [x]++l.drop i.toNat)∧Below base w w'∧w.grownBy w' (Value.slice A l.length c).ownBlock∧(v1.ownBlock=(Value.slice A l.length c).ownBlock ∨ ∃ b,v1.ownBlock=some b∧w.heap.size≤b):=by
  obtain⟨m,rfl⟩:∃ m:Nat,i=m:=⟨i.toNat,by omega⟩
  rw[Int.toNat_natCast]
  obtain⟨hq,ho⟩:=(Yr X9).1 HO
  have hlen:(l.take m ++ [x]++l.drop m).length=l.length+1:=by simp only[List.length_append,List.length_take,List.length_drop,List.length_cons,List.length_nil];omega
  have B:(k56).sz=3:=rfl
  rcases Nat.lt_or_ge m l.length with hlt|hge
  · rcases ho.2 with⟨_,hn⟩|⟨g,cap,cur,he,hb,hh,hnc,hcm,hcs,htake⟩
    · omega
    injection he with Z e2 J
    subst Z J
    have hne:vb≠g:=hvb _ rfl
    have htk:cur.toList.take (m * 3)=Zk Xv (l.take m):=by
      have:=Jb X9 l m (by omega)
      rw[B] at this
      rw[← this,← htake,List.take_take,B,Nat.min_eq_left (Nat.mul_le_mul_right _ (by omega))]
    rcases Nat.lt_or_ge l.length c with hr|hr
    · refine(Wn g l.length c m vb vc l x w cur curv hlt (by omega) (by unfold maxLen at hcm;omega) hne rfl hh hcs htake hv hvs hvt).mono ?_
      rintro e w' ⟨he,hw⟩
      obtain⟨cur',c1,c2,c3⟩:=Gg X9 w.drew g m l.length cur l x hh rfl (by omega) (by rw[hcs];exact Nat.mul_le_mul_right _ (by omega)) (by rw[B];exact htk)
      rw[B] at c1 c3
      rw[← hw] at c1
      refine⟨_,he,(Yr X9).2 ⟨hq,by rw[Z6 X9],.inr ⟨g,c,cur',by rw[hlen],hb,c1,by omega,hcm,by rw[c2,hcs],by rw[hlen];exact c3⟩⟩, ?_, ?_,.inl rfl⟩ <;> rw[hw]
      · exact Xb (Below.refl _ w) hb _ _ (Xb (Below.refl _ w) hb _ _ (Qe (Below.refl _ _)))
      · exact Gp _ _ _ _ _ _
    · have hce:c=l.length:=by omega
      refine(Lw g l.length c m vb vc l x w cur curv hlt (by omega) (by omega) hl hne rfl hh hcs htake hv hvs hvt).mono ?_
      rintro e w' ⟨he,hw⟩
      have Y:=grownCap_ge w (l.length+1) c 56
      have hGm:=grownCap_le_maxLen w (l.length+1) c 56 (by unfold maxLen;omega)
      obtain⟨G,hG⟩:∃ G,G=grownCap w (l.length+1) c 56:=⟨_,rfl⟩
      rw[← hG] at he hw Y hGm
      obtain⟨ROW,hROW⟩:∃ ROW:Array Value,ROW=(Zk Xv (l.take m)).toArray++Builtin.zeroCells (Value.agg #[(.int .i64 0),(.int .i64 0),(.int .i64 0)]).cells (l.length+1-m)++Builtin.zeroCells (Value.agg #[(.int .i64 0),(.int .i64 0),(.int .i64 0)]).cells (G - (l.length+1)):=⟨_,rfl⟩
      have htl:(Zk Xv (l.take m)).length=m * 3:=by rw[Z6 X9,List.length_take,Nat.min_eq_left (by omega)];rfl
      have hRs:ROW.size=G * 3:=by
        rw[hROW]
        simp only[Array.size_append,size_zeroCells,List.size_toArray,htl]
        show m * 3+(l.length+1-m) * 3+(G - (l.length+1)) * 3=G * 3
        omega
      have hRt:ROW.toList.take (m * 3)=Zk Xv (l.take m):=by
        rw[hROW,Array.toList_append,Array.toList_append,List.append_assoc]
        exact List.take_left' htl
      rw[← hROW] at hw
      have hblk:(w.alloc (.cells ROW 56)).drew.heap[w.heap.size]?=some (.cells ROW 56 (0,0)):=by
        show(w.heap.push (.cells ROW 56))[w.heap.size]?=_
        exact Array.getElem?_push_size
      obtain⟨cur',c1,c2,c3⟩:=Gn X9 (w.alloc (.cells ROW 56)).drew w.heap.size m l.length ROW l x hblk rfl (by omega) (by rw[hRs];exact Nat.mul_le_mul_right _ Y) (by rw[B];exact hRt)
      rw[B] at c1 c3
      rw[← hw] at c1
      refine⟨_,he,(Yr X9).2 ⟨fun k hk=>hfresh k (by simp[Value.ownBlock] at hk;omega),by rw[Z6 X9],.inr ⟨w.heap.size,G,cur',by rw[hlen],hbase,c1,by omega,hGm,by rw[c2,hRs];rfl,by rw[hlen];exact c3⟩⟩, ?_, ?_,.inr ⟨_,rfl,Nat.le_refl _⟩⟩ <;> rw[hw]
      · exact Xb (Below.refl _ w) hbase _ _ (Qe (Xb (Below.refl _ w) hbase _ _ (Qe (Jz hbase _))))
      · exact Ja (Xb (Below.refl _ w) (Nat.le_refl _) _ _ (Qe (Xb (Below.refl _ w) (Nat.le_refl _) _ _ (Qe (Jz (Nat.le_refl _) _))))) _
  · have hme:m=l.length:=by omega
    subst hme
    rw[List.take_length,List.drop_length,List.append_nil]
    have hnc:l.length≤c:=by
      rcases ho.2 with⟨he,hn⟩|⟨g,cap,cur,he,hb,hh,hnc,_⟩
      · omega
      · injection he with Z e2 J;omega
    exact Mw w base ok A c l x vb vc curv hbase hfresh HO hnc hl hv hvs hvt
theorem Em (w:World) (base:Nat) (okA okB:Nat→Prop) (v:Value) (l ys:List S56) (x:S56) (i:Int) (A:Option Addr) (c:Nat) (hys:ys = [x]) (hbase:base≤w.heap.size) (hfresh:∀ k,w.heap.size≤k→okA k)
    (HO:Kd.R k56 56 w base okA v l) (HL:Kd.R k56 56 w base okB (.slice A ys.length c) ys) (hne:∀ k,okA k→some k≠(Value.slice A ys.length c).ownBlock) (hl:l.length≤1000000000) (U:0≤i) (hi:i≤(l.length:Int)):
    Calls Try.prog 63 #[v,.int .i64 i,.slice A ys.length c] w fun e w'=>
      ∃ v1:Value,e = .returned v1∧Kd.R k56 56 w' base okA v1 (l.take i.toNat++ys++l.drop i.toNat)∧Below base w w'∧w.grownBy w' v.ownBlock∧(v1.ownBlock=v.ownBlock ∨ ∃ b,v1.ownBlock=some b∧w.heap.size≤b):=by
  subst hys
  obtain⟨qL,oL⟩:=(Yr X9).1 HL
  obtain⟨qO,oO⟩:=(Yr X9).1 HO
  rcases oL.2 with⟨_,hn⟩|⟨g,cap,cur,he,hb,hh,hnc,hcm,hcs,htake⟩
  · cases hn
  injection he with Z e2 J
  subst Z J
  obtain⟨A2,c2,rfl⟩:∃ A2 c2,v = .slice A2 l.length c2:=by
    rcases oO.2 with⟨he,hn⟩|⟨g,cap,cur,he,_⟩
    · exact⟨none,0,by rw[he,hn]⟩
    · exact⟨_,_,he⟩
  have B:∀ a,A2=some a→g≠a.block:=by
    rintro a rfl hga
    exact hne a.block (qO _ rfl) (by rw[← hga];rfl)
  exact Wo w base okA A2 c2 l x i g c cur hbase hfresh HO B hl hh (by rw[hcs];have h1c:1≤c:=hnc;exact Nat.mul_pos h1c (by decide)) (by rw[← show Zk Xv [x]=Xv x from List.append_nil _];exact htake) U hi
set_option maxHeartbeats 4000000 in
set_option maxRecDepth 100000 in
theorem Mu (w:World) (base:Nat) (ok:Nat→Prop) (A:Option Addr) (c:Nat) (l:List S62) (x:S62) (vb vc:Nat) (curv:Array Value) (hbase:base≤w.heap.size) (hfresh:∀ k,w.heap.size≤k→ok k)
    (HO:Kd.R k62 62 w base ok (.slice A l.length c) l) (hnc:l.length≤c) (hl:l.length≤1000000000)
    (hv:w.heap[vb]?=some (.cells curv 62 (0,0))) (hvs:0<curv.size) (hvt:curv.toList.take 2=encI x):
    Calls Try.prog 60 #[.slice A l.length c,.int .i64 (l.length:Int),.slice (some ⟨vb,0,none⟩) 1 vc] w fun e w'=>
      ∃ v1:Value,e = .returned v1∧Kd.R k62 62 w' base ok v1 (l ++ [x])∧Below base w w'∧w.grownBy w' (Value.slice A l.length c).ownBlock∧(v1.ownBlock=(Value.slice A l.length c).ownBlock ∨ ∃ b,v1.ownBlock=some b∧w.heap.size≤b):=by
  obtain⟨i0,B,Z,hsz,X⟩:=info_parts Yd
  obtain⟨sv,g1⟩:∃ sv,∀ W:World,(Instr.slice 25 (.slice A l.length c) (some (.int .i64 (l.length:Int))) none none).run Try.prog W = .ok sv W:=⟨_,fun W=>Xl (P:=Try.prog) 25 62 .i64 Try.underlying25 B 2 hsz A l.length c (l.length:Int) (by omega) (by omega) W⟩
  have HR:Xg (fun p cs=>cs=encI p) 2 w (some ⟨vb,0,none⟩) 1 [x]:=by
    refine⟨rfl,by decide,fun _=>⟨_,rfl,fun j p hj=>⟨encI p,rfl,rfl,fun q u hu=>?_⟩⟩⟩
    have D:j<1:=(List.getElem?_eq_some_iff.1 hj).1
    obtain rfl:j=0:=by omega
    obtain rfl:x=p:=by simpa using hj
    rw[Z7,Nat.zero_mul,Nat.zero_add,cell_of_row w vb q curv 62 (0,0) hv,← Array.getElem?_toList]
    rw[← hvt,List.getElem?_take] at hu
    split at hu
    · exact hu
    · cases hu
  go_enter Try.func60,Try.ntmps60
  go_wp2_with (at_builtin;refine Kd.Yv k62 (w0:=w) base rfl (.tmp 23) (.tmp 24) 25 62 (Value.agg #[(.int .i64 0),(.int .i64 0)]) 16 rfl Try.underlying25 Yd rfl (by decide) (by decide) (.slice A l.length c) l [x] _ _ _ ok (fun _=>False) rfl rfl HO HR (fun _ _ h=>(X8.M _ _ _ _ _).2 h) (fun _ h=>h.elim) hfresh (Below.refl _ _) hbase (by omega) ?_)
  intro v1 w1 h1 O L Y
  go_wp2
  go_ret
  exact⟨_,rfl,h1,O,L,Y⟩
theorem Wm (w:World) (base:Nat) (ok:Nat→Prop) (A:Option Addr) (c:Nat) (l:List S62) (x:S62) (i:Int) (vb vc:Nat) (curv:Array Value) (hbase:base≤w.heap.size) (hfresh:∀ k,w.heap.size≤k→ok k)
    (HO:Kd.R k62 62 w base ok (.slice A l.length c) l) (hvb:∀ a,A=some a→vb≠a.block) (hl:l.length≤1000000000)
    (hv:w.heap[vb]?=some (.cells curv 62 (0,0))) (hvs:0<curv.size) (hvt:curv.toList.take 2=encI x) (U:0≤i) (hi:i≤(l.length:Int)):
    Calls Try.prog 60 #[.slice A l.length c,.int .i64 i,.slice (some ⟨vb,0,none⟩) 1 vc] w fun e w'=>
      ∃ v1:Value,e = .returned v1∧Kd.R k62 62 w' base ok v1 (l.take i.toNat ++ [x]++l.drop i.toNat)∧Below base w w'∧w.grownBy w' (Value.slice A l.length c).ownBlock∧(v1.ownBlock=(Value.slice A l.length c).ownBlock ∨ ∃ b,v1.ownBlock=some b∧w.heap.size≤b):=by
  obtain⟨m,rfl⟩:∃ m:Nat,i=m:=⟨i.toNat,by omega⟩
  rw[Int.toNat_natCast]
  obtain⟨hq,ho⟩:=(Yr X8).1 HO
  have hlen:(l.take m ++ [x]++l.drop m).length=l.length+1:=by simp only[List.length_append,List.length_take,List.length_drop,List.length_cons,List.length_nil];omega
  have B:(k62).sz=2:=rfl
  rcases Nat.lt_or_ge m l.length with hlt|hge
  · rcases ho.2 with⟨_,hn⟩|⟨g,cap,cur,he,hb,hh,hnc,hcm,hcs,htake⟩
    · omega
    injection he with Z e2 J
    subst Z J
    have hne:vb≠g:=hvb _ rfl
    have htk:cur.toList.take (m * 2)=Zk encI (l.take m):=by
      have:=Jb X8 l m (by omega)
      rw[B] at this
      rw[← this,← htake,List.take_take,B,Nat.min_eq_left (Nat.mul_le_mul_right _ (by omega))]
    rcases Nat.lt_or_ge l.length c with hr|hr
    · refine(Wl g l.length c m vb vc l x w cur curv hlt (by omega) (by unfold maxLen at hcm;omega) hne rfl hh hcs htake hv hvs hvt).mono ?_
      rintro e w' ⟨he,hw⟩
      obtain⟨cur',c1,c2,c3⟩:=Gg X8 w.drew g m l.length cur l x hh rfl (by omega) (by rw[hcs];exact Nat.mul_le_mul_right _ (by omega)) (by rw[B];exact htk)
      rw[B] at c1 c3
      rw[← hw] at c1
      refine⟨_,he,(Yr X8).2 ⟨hq,by rw[Z6 X8],.inr ⟨g,c,cur',by rw[hlen],hb,c1,by omega,hcm,by rw[c2,hcs],by rw[hlen];exact c3⟩⟩, ?_, ?_,.inl rfl⟩ <;> rw[hw]
      · exact Xb (Below.refl _ w) hb _ _ (Xb (Below.refl _ w) hb _ _ (Qe (Below.refl _ _)))
      · exact Gp _ _ _ _ _ _
    · have hce:c=l.length:=by omega
      refine(Lu g l.length c m vb vc l x w cur curv hlt (by omega) (by omega) hl hne rfl hh hcs htake hv hvs hvt).mono ?_
      rintro e w' ⟨he,hw⟩
      have Y:=grownCap_ge w (l.length+1) c 62
      have hGm:=grownCap_le_maxLen w (l.length+1) c 62 (by unfold maxLen;omega)
      obtain⟨G,hG⟩:∃ G,G=grownCap w (l.length+1) c 62:=⟨_,rfl⟩
      rw[← hG] at he hw Y hGm
      obtain⟨ROW,hROW⟩:∃ ROW:Array Value,ROW=(Zk encI (l.take m)).toArray++Builtin.zeroCells (Value.agg #[(.int .i64 0),(.int .i64 0)]).cells (l.length+1-m)++Builtin.zeroCells (Value.agg #[(.int .i64 0),(.int .i64 0)]).cells (G - (l.length+1)):=⟨_,rfl⟩
      have htl:(Zk encI (l.take m)).length=m * 2:=by rw[Z6 X8,List.length_take,Nat.min_eq_left (by omega)];rfl
      have hRs:ROW.size=G * 2:=by
        rw[hROW]
        simp only[Array.size_append,size_zeroCells,List.size_toArray,htl]
        show m * 2+(l.length+1-m) * 2+(G - (l.length+1)) * 2=G * 2
        omega
      have hRt:ROW.toList.take (m * 2)=Zk encI (l.take m):=by
        rw[hROW,Array.toList_append,Array.toList_append,List.append_assoc]
        exact List.take_left' htl
      rw[← hROW] at hw
      have hblk:(w.alloc (.cells ROW 62)).drew.heap[w.heap.size]?=some (.cells ROW 62 (0,0)):=by
        show(w.heap.push (.cells ROW 62))[w.heap.size]?=_
        exact Array.getElem?_push_size
      obtain⟨cur',c1,c2,c3⟩:=Gn X8 (w.alloc (.cells ROW 62)).drew w.heap.size m l.length ROW l x hblk rfl (by omega) (by rw[hRs];exact Nat.mul_le_mul_right _ Y) (by rw[B];exact hRt)
      rw[B] at c1 c3
      rw[← hw] at c1
      refine⟨_,he,(Yr X8).2 ⟨fun k hk=>hfresh k (by simp[Value.ownBlock] at hk;omega),by rw[Z6 X8],.inr ⟨w.heap.size,G,cur',by rw[hlen],hbase,c1,by omega,hGm,by rw[c2,hRs];rfl,by rw[hlen];exact c3⟩⟩, ?_, ?_,.inr ⟨_,rfl,Nat.le_refl _⟩⟩ <;> rw[hw]
      · exact Xb (Below.refl _ w) hbase _ _ (Qe (Xb (Below.refl _ w) hbase _ _ (Qe (Jz hbase _))))
      · exact Ja (Xb (Below.refl _ w) (Nat.le_refl _) _ _ (Qe (Xb (Below.refl _ w) (Nat.le_refl _) _ _ (Qe (Jz (Nat.le_refl _) _))))) _
  · have hme:m=l.length:=by omega
    subst hme
    rw[List.take_length,List.drop_length,List.append_nil]
    have hnc:l.length≤c:=by
      rcases ho.2 with⟨he,hn⟩|⟨g,cap,cur,he,hb,hh,hnc,_⟩
      · omega
      · injection he with Z e2 J;omega
    exact Mu w base ok A c l x vb vc curv hbase hfresh HO hnc hl hv hvs hvt
theorem El (w:World) (base:Nat) (okA okB:Nat→Prop) (v:Value) (l ys:List S62) (x:S62) (i:Int) (A:Option Addr) (c:Nat) (hys:ys = [x]) (hbase:base≤w.heap.size) (hfresh:∀ k,w.heap.size≤k→okA k)
    (HO:Kd.R k62 62 w base okA v l) (HL:Kd.R k62 62 w base okB (.slice A ys.length c) ys) (hne:∀ k,okA k→some k≠(Value.slice A ys.length c).ownBlock) (hl:l.length≤1000000000) (U:0≤i) (hi:i≤(l.length:Int)):
    Calls Try.prog 60 #[v,.int .i64 i,.slice A ys.length c] w fun e w'=>
      ∃ v1:Value,e = .returned v1∧Kd.R k62 62 w' base okA v1 (l.take i.toNat++ys++l.drop i.toNat)∧Below base w w'∧w.grownBy w' v.ownBlock∧(v1.ownBlock=v.ownBlock ∨ ∃ b,v1.ownBlock=some b∧w.heap.size≤b):=by
  subst hys
  obtain⟨qL,oL⟩:=(Yr X8).1 HL
  obtain⟨qO,oO⟩:=(Yr X8).1 HO
  rcases oL.2 with⟨_,hn⟩|⟨g,cap,cur,he,hb,hh,hnc,hcm,hcs,htake⟩
  · cases hn
  injection he with Z e2 J
  subst Z J
  obtain⟨A2,c2,rfl⟩:∃ A2 c2,v = .slice A2 l.length c2:=by
    rcases oO.2 with⟨he,hn⟩|⟨g,cap,cur,he,_⟩
    · exact⟨none,0,by rw[he,hn]⟩
    · exact⟨_,_,he⟩
  have B:∀ a,A2=some a→g≠a.block:=by
    rintro a rfl hga
    exact hne a.block (qO _ rfl) (by rw[← hga];rfl)
  exact Wm w base okA A2 c2 l x i g c cur hbase hfresh HO B hl hh (by rw[hcs];have h1c:1≤c:=hnc;exact Nat.mul_pos h1c (by decide)) (by rw[← show Zk encI [x]=encI x from List.append_nil _];exact htake) U hi
end Go.Proofs.Ytjehhhlhalkieaa.C
namespace Go.Proofs.Ytjehhhlhalkieaa.C
open Go.RowKit Go.Proofs.YtjehhhlhalkieaaW.PrintWords Go.Proofs.YtjehhhlhalkieaaW.PrintLast Go.Proofs.YtjehhhlhalkieaaW.PrintMore
attribute [local go_sem] Z4 Z2 Xe Xd Zx Zw Z3 Z1
set_option linter.unusedVariables false
set_option linter.unusedSimpArgs false
def api_Hall_with.f (k:Nat) (J:List (S56)) (D:Int) (I:Int) (L:Int) (X:Int):Option ((List (S56))):=(api_Hall_62.f k J I L X D).bind fun ν =>(if ν.2=true then ((api_Hall_55.f J).bind fun a7=>(some a7)) else ((api_Hall_55.f J).bind fun τ =>((some (([(⟨I,L,X⟩:S56)]:List (S56)):List (S56))).bind fun B=>(if (τ.length+B.length<1000000000∧0 ≤ ν.1 ∧ ν.1≤(τ.length:Int)) then (some (τ.take ν.1.toNat++B ++ τ.drop ν.1.toNat)) else (none)))))
theorem api_Hall_with.mono:∀ D L a2 X I k,LeO (api_Hall_with.f k D L a2 X I) (api_Hall_with.f (k+1) D L a2 X I):=by
 intro D L a2 X I k
 unfold api_Hall_with.f
 repeat' first
   |(with_reducible exact api_Hall_62.mono _ _ _ _ _ _)
   |(with_reducible exact LeO.refl _)
   |(with_reducible exact LeO.none _)
   |(with_reducible refine LeO.ite ?_ ?_)
   |(with_reducible refine LeO.bind ?_ (fun _=>?_))
   |exact api_Hall_62.mono _ _ _ _ _ _
   |exact LeO.none _
   |refine LeO.ite ?_ ?_
   |refine LeO.bind ?_ (fun _=>?_)
def api_Hall_with.T4:Bool×List (List Nat×List Nat):=(true,[([],[]),([0],[0]),([1],[1]),([],[]),([],[]),([4],[4]),([2,3,5,2],[2,3,5]),([6,6,0,1,2,3,4,5,6],[6])])
def api_Hall_with.B4:List Nat:=[0,1,3,0,0,16,63,127]
theorem api_Hall_with.G0:rtab .any (opsOf Try.f35 4)=api_Hall_with.T4:=by kernel_rfl
theorem api_Hall_with.J9:Zv api_Hall_with.T4.2 api_Hall_with.B4=true:=by kernel_rfl
set_option maxHeartbeats 8000000 in
set_option maxRecDepth 100000 in
theorem api_Hall_with.calls (k:Nat) (μ :Option Addr) (θ :Nat) (J:List (S56)) (D:Int) (I:Int) (L:Int) (X:Int) (r:List (S56)) (w:World) (a2:Kd.C k56 w μ J.length J) (a6:J.length ≤ θ) (h:api_Hall_with.f k J D I L X=some r):
  Calls Try.prog 35 #[.agg #[.slice μ J.length θ,.func (.func 51) #[] #[]],.agg #[.int .i64 I,.int .i64 L,.int .i64 X]] w fun e w'=>∃ ω :Value,e = .returned (ω)∧Kd.R k56 56 w' w.heap.size (fun _=>True) ω r∧Below w.heap.size w w':=by
 have bs:=Try.underlying69
 have ay:=Try.underlying56
 have ψ :=Aside0.mk a2
 have a8:=Aside0.mk a6
 clear a2 a6
 have HB:=Aside0.mk (Below.refl w.heap.size w)
 have H:((api_Hall_62.f k J I L X D).bind fun ν =>(if ν.2=true then ((api_Hall_55.f J).bind fun a7=>(some a7)) else ((api_Hall_55.f J).bind fun τ =>((some (([(⟨I,L,X⟩:S56)]:List (S56)):List (S56))).bind fun B=>(if (τ.length+B.length<1000000000∧0 ≤ ν.1 ∧ ν.1≤(τ.length:Int)) then (some (τ.take ν.1.toNat++B ++ τ.drop ν.1.toNat)) else (none))))))=some r:=h
 clear h
 replace H:=Option.bind_eq_some_iff.mp H
 obtain⟨⟨γ,η⟩,ac,H⟩:=H
 replace H:(if η = true then ((api_Hall_55.f J).bind fun a7=>(some a7)) else ((api_Hall_55.f J).bind fun τ =>((some (([(⟨I,L,X⟩:S56)]:List (S56)):List (S56))).bind fun B=>(if (τ.length+B.length<1000000000∧0≤γ∧γ≤(τ.length:Int)) then (some (τ.take γ.toNat++B ++ τ.drop γ.toNat)) else (none)))))=some r:=H
 have A3:=Aside0.mk ac
 clear ac
 by_cases c4: η = true
 ·subst c4
  have H1:((api_Hall_55.f J).bind fun a7=>(some a7))=some r:=by rw[if_pos rfl] at H;exact H
  clear H
  have H:=H1
  clear H1
  replace H:=Option.bind_eq_some_iff.mp H
  obtain⟨a7,bz,H⟩:=H
  replace H:(some a7)=some r:=H
  have A5:=Aside0.mk bz
  clear bz
  obtain rfl:=Option.some.inj H
  go_enter Try.func35,Try.ntmps35
  go_wp2_with (first|((with_reducible refine Qp (N:=2) rfl ?_);refine qE 2 #[.slice μ J.length θ,.func (.func 51) #[] #[]] 69 ?_;intro ε hg w6 hbox hb;have Y:=Aside0.mk hbox;have bf:=sGe hg;have bg:=sGe hg;replace HB:=sHb hb;clear hb hbox hg)|((with_reducible refine Qp (N:=3) rfl ?_);refine qE 3 #[.int .i64 I,.int .i64 L,.int .i64 X] 56 ?_;intro a3 hg w7 hbox hb;have U:=Aside0.mk hbox;have bm:=sGe hg;have bo:=sGe hg;have a5:=sNl Y hg;have aj:=sNg Y hg;replace Y:=sBk Y hb;replace HB:=sHb hb;clear hb hbox hg;have bc:=a5.out;have cd:=aj.out;obtain⟨ae,bh,bi,bj⟩:=qD2 Y.out;obtain⟨al,ax,b4,bk,bl,b5⟩:=qD3 U.out)|((with_reducible refine Q1 (f:=62) rfl ?_);refine Zp (some 13) rfl rfl Try.func62 kr rfl #[.slice μ J.length θ,.agg #[.int .i64 I,.int .i64 L,.int .i64 X],.func (.func 51) #[] #[]] rfl qM ?_;(with_reducible refine(api_Hall_62.calls k _ _ J I L X D γ true _ ?side1 ?side2 A3.out).mono ?_);(case side1=>exact(Kd.Qz ψ.out HB.out));(case side2=>exact a8.out);rintro e dm ⟨rfl,hb⟩;refine⟨_,rfl, ?_⟩;replace Y:=sBk Y hb;replace U:=sBk U hb;replace HB:=sHb hb;(try clear hb);(try clear a0);(try clear hk);(try clear hi);obtain⟨b0,b1,b2,b3⟩:=qD2 Y.out)|((with_reducible refine Q1 (f:=55) rfl ?_);refine Zp (some 19) rfl rfl Try.func55 kr rfl #[.slice μ J.length θ] rfl qM ?_;(with_reducible refine(api_Hall_55.calls _ _ J a7 _ ?side1 ?side2 A5.out).mono ?_);(case side1=>exact(Kd.Qz ψ.out HB.out));(case side2=>exact a8.out);rintro e eb ⟨ce,rfl,ρ,hb⟩;refine⟨_,rfl, ?_⟩;have bb:=Aside0.mk (Kd.Q2 (Kd.Xx ρ (g:=a3) (o:=.cells #[.int .i64 I,.int .i64 L,.int .i64 X] 56 (0,0)) U.out) (Qj HB.out));replace Y:=sBk Y hb;replace U:=sBk U hb;replace HB:=sHb hb;(try clear hb);(try clear a0);(try clear hk);(try clear hi);(try clear ρ)))
  go_ret
  exact⟨_,rfl,by(with_reducible repeat first|apply Kd.Qm|apply Kd.Ql|apply Kd.Qn);exact Kd.Qr bb.out (fun _ hk=>trivial),HB.out⟩
 ·replace c4:=Bool.eq_false_iff.mpr c4
  subst c4
  have H1:((api_Hall_55.f J).bind fun τ =>((some (([(⟨I,L,X⟩:S56)]:List (S56)):List (S56))).bind fun B=>(if (τ.length+B.length<1000000000∧0≤γ∧γ≤(τ.length:Int)) then (some (τ.take γ.toNat++B ++ τ.drop γ.toNat)) else (none))))=some r:=by rw[if_neg (show ¬ (false=true) by decide)] at H;exact H
  clear H
  have H:=H1
  clear H1
  replace H:=Option.bind_eq_some_iff.mp H
  obtain⟨τ,b7,H⟩:=H
  replace H:((some (([(⟨I,L,X⟩:S56)]:List (S56)):List (S56))).bind fun B=>(if (τ.length+B.length<1000000000∧0≤γ∧γ≤(τ.length:Int)) then (some (τ.take γ.toNat++B ++ τ.drop γ.toNat)) else (none)))=some r:=H
  have b9:=Aside0.mk b7
  clear b7
  obtain⟨B,au⟩:∃ y_:List (S56),y_=(([(⟨I,L,X⟩:S56)]:List (S56))):=⟨_,rfl⟩
  replace H:(if (τ.length+B.length<1000000000∧0≤γ∧γ≤(τ.length:Int)) then (some (τ.take γ.toNat++B ++ τ.drop γ.toNat)) else (none))=some r:=by first|(rw[au];with_reducible exact H)|(have δ :=(Option.bind_some _ _).symm.trans H;rw[au];with_reducible exact δ)|(have δ :=(Option.bind_some _ _).symm.trans H;with_reducible exact δ)|with_reducible exact H|(rw[au];exact H)|exact H
  have aw:=Aside0.mk au
  clear au
  by_cases a4:(τ.length+B.length<1000000000∧0≤γ∧γ≤(τ.length:Int))
  ·rw[if_pos a4] at H
   have ar:=Aside0.mk a4
   clear a4
   obtain⟨bw,az⟩:∃ y_:List (S56),y_=(τ.take γ.toNat++B ++ τ.drop γ.toNat):=⟨_,rfl⟩
   replace H:(some bw)=some r:=by first|(rw[az];with_reducible exact H)|(have δ :=(Option.bind_some _ _).symm.trans H;rw[az];with_reducible exact δ)|(have δ :=(Option.bind_some _ _).symm.trans H;with_reducible exact δ)|with_reducible exact H|(rw[az];exact H)|exact H
   have br:=Aside0.mk az
   clear az
   obtain rfl:=Option.some.inj H
   go_enter Try.func35,Try.ntmps35
   try go_wp2_with (first|((with_reducible refine Qp (N:=2) rfl ?_);refine qE 2 #[.slice μ J.length θ,.func (.func 51) #[] #[]] 69 ?_;intro ε hg af hbox hb;have Y:=Aside0.mk hbox;have bf:=sGe hg;have bg:=sGe hg;replace HB:=sHb hb;clear hb hbox hg)|((with_reducible refine Qp (N:=3) rfl ?_);refine qE 3 #[.int .i64 I,.int .i64 L,.int .i64 X] 56 ?_;intro a3 hg g6 hbox hb;have U:=Aside0.mk hbox;have bm:=sGe hg;have bo:=sGe hg;have a5:=sNl Y hg;have aj:=sNg Y hg;replace Y:=sBk Y hb;replace HB:=sHb hb;clear hb hbox hg;have ca:=a5.out;have cb:=aj.out;obtain⟨am,ao,ap,av⟩:=qD2 Y.out;obtain⟨ah,ak,b8,bd,be,bn⟩:=qD3 U.out)|((with_reducible refine Q1 (f:=62) rfl ?_);refine Zp (some 13) rfl rfl Try.func62 kr rfl #[.slice μ J.length θ,.agg #[.int .i64 I,.int .i64 L,.int .i64 X],.func (.func 51) #[] #[]] rfl qM ?_;(with_reducible refine(api_Hall_62.calls k _ _ J I L X D γ false _ ?side1 ?side2 A3.out).mono ?_);(case side1=>exact(Kd.Qz ψ.out HB.out));(case side2=>exact a8.out);rintro e bp ⟨rfl,hb⟩;refine⟨_,rfl, ?_⟩;replace Y:=sBk Y hb;replace U:=sBk U hb;replace HB:=sHb hb;(try clear hb);(try clear a0);(try clear hk);(try clear hi)))
   replace Y:=Aside0.mk (Qb Y.out)
   replace U:=Aside0.mk (Qb U.out)
   replace HB:=Aside0.mk (Qe HB.out)
   refine Ze (n:=8) (S:=fun w'=>w'.cell? ⟨ε,0,none⟩=some (.slice μ J.length θ)∧w'.cell? ⟨ε,1,none⟩=some (.func (.func 51) #[] #[])∧w'.cell? ⟨a3,0,none⟩=some (.int .i64 I)∧w'.cell? ⟨a3,1,none⟩=some (.int .i64 L)∧w'.cell? ⟨a3,2,none⟩=some (.int .i64 X)) (ds:=[]) #[false,false,false,false,false,false,false,false] kr rfl rfl ⟨(Qi Y.out 0).trans rfl,(Qi Y.out 1).trans rfl,(Qi U.out 0).trans rfl,(Qi U.out 1).trans rfl,(Qi U.out 2).trans rfl⟩ (fun hHeld=>?_);refine Q4 api_Hall_with.G0 api_Hall_with.J9 (fun HT_ HW_=>?_)
   generalize bp.drew=dr at Y U HB hHeld ⊢
   refine qP 0 (some 20) (bN 8 1) HT_ ?_
   refine qP 3 (some 23) (bN 8 9) HT_ ?_
   refine qT 1 (some 21) (bN 8 11) HT_ HW_ hHeld ?_
   refine qT 4 (some 24) (bN 8 27) HT_ HW_ hHeld ?_
   refine Gl (σ:=Value×Value) 2 (bN 8 63) (fun s_=>[(22,s_.1),(25,s_.2)]) (fun s_ w'=>(w'.cell? ⟨ε,0,none⟩=some (.slice μ J.length θ)∧w'.cell? ⟨ε,1,none⟩=some (.func (.func 51) #[] #[])∧w'.cell? ⟨a3,0,none⟩=some (.int .i64 I)∧w'.cell? ⟨a3,1,none⟩=some (.int .i64 L)∧w'.cell? ⟨a3,2,none⟩=some (.int .i64 X))∧(Kd.R k56 56 w' w.heap.size (fun k_=>some k_≠(s_.2:Value).ownBlock∧k_≠a3) s_.1 τ)∧(Kd.R k56 56 w' w.heap.size (fun k_=>some k_≠(s_.1:Value).ownBlock∧k_≠a3) s_.2 B)∧(w'.heap[ε]?=some (.cells #[.slice μ J.length θ,.func (.func 51) #[] #[]] 69 (0,0)))∧(w'.heap[a3]?=some (.cells #[.int .i64 I,.int .i64 L,.int .i64 X] 56 (0,0)))∧(Below w.heap.size w w')) ?_ ?_
   rotate_left
   ·intro hCont
    refine Ks (i:=2) (j:=5) (Ni:=some 22) (Nj:=some 25) (bN 8 31) (bN 8 59) rfl rfl rfl rfl (Yn HT_.out kr) (by decide) (by decide) (fun K hK=>?_) (fun K hK=>?_)
    ·skip
     refine Zc Try.func55 kr rfl #[.slice μ J.length θ] (by rfl) rfl rfl qM ?_
     with_reducible refine(api_Hall_55.calls _ _ J τ _ ?side1 ?side2 b9.out).mono ?_
     (case side1=>exact(Kd.Qz ψ.out HB.out))
     (case side2=>exact a8.out)
     rintro e dv ⟨an,rfl,ρ,hb⟩
     refine⟨_,rfl, ?_⟩
     have a1:=Aside0.mk (Kd.Q2 (Kd.Xx ρ (g:=a3) (o:=.cells #[.int .i64 I,.int .i64 L,.int .i64 X] 56 (0,0)) U.out) (Qj HB.out))
     replace Y:=sBk Y hb
     replace U:=sBk U hb
     replace HB:=sHb hb
     (try clear hb)
     (try clear a0)
     (try clear hk)
     (try clear hi)
     (try clear ρ)
     refine hK.out _ _ ⟨qc Y,qc Y,qc U,qc U,qc U⟩ (fun hHeld=>?_)
     clear hK K
     refine qN (some 22) ?_
     refine Zi (i:=5) (N:=some 25) (bN 8 63) rfl rfl (Q0 HT_.out kr) (by decide) (fun K hK=>?_)
     refine Kd.Xp k56 _ 56 ?hg (N:=25) ?hd (xs:=([(⟨I,L,X⟩:S56)]:List (S56))) (inner:=[.int .i64 I,.int .i64 L,.int .i64 X]) (ok:=fun _=>True) (okp:=fun _=>True) ?hr ?hp (fun _ hk=>hk) trivial (Below.refl _ _) (Nat.le_refl _) (by simp) ?_;(case hd=>rfl);(case hg=>rfl);(case hr=>go_simp <;> rfl);(case hp=>exact(Reps.c3 (show Kd.M k56 _ _ _ (⟨I,L,X⟩:S56) [.int .i64 I,.int .i64 L,.int .i64 X] from(Xi _ _ _ (⟨I,L,X⟩:S56))) (Reps.none _ _)))
     intro b6 bu ag hb hg_ hnew_
     clear hg_ hnew_
     (first|rw[← aw.out] at ag|(simp only[Int.reduceToNat] at ag;rw[← aw.out] at ag))
     have ζ :=Aside0.mk (Kd.Q2 (Kd.Xx (Kd.Zr ag (Kd.Z8 a1.out)) (g:=a3) (o:=.cells #[.int .i64 I,.int .i64 L,.int .i64 X] 56 (0,0)) U.out) (Qj HB.out))
     replace a1:=Aside0.mk (Kd.Zb a1.out (Kd.Zf ag) hb)
     replace Y:=sBk Y hb
     replace U:=sBk U hb
     replace HB:=sHb hb
     clear hb ag
     refine hK.out _ _ ⟨qc Y,qc Y,qc U,qc U,qc U⟩ (fun hHeld=>?_)
     clear hK K
     refine qN (some 25) ?_
     exact Xn (by simp only[Z9,Act.put,qS]) (hCont (an,b6) _ ⟨hHeld,(by(with_reducible repeat first|apply Kd.Qm|apply Kd.Ql|apply Kd.Qn);exact Kd.Qr a1.out (fun _ hk=>⟨hk.2,hk.1.2⟩)),(by(with_reducible repeat first|apply Kd.Qm|apply Kd.Ql|apply Kd.Qn);exact Kd.Qr ζ.out (fun _ hk=>⟨hk.1.2,hk.2⟩)),Y.out,U.out,HB.out⟩)
    ·skip
     refine Kd.Xp k56 _ 56 ?hg (N:=25) ?hd (xs:=([(⟨I,L,X⟩:S56)]:List (S56))) (inner:=[.int .i64 I,.int .i64 L,.int .i64 X]) (ok:=fun _=>True) (okp:=fun _=>True) ?hr ?hp (fun _ hk=>hk) trivial (Below.refl _ _) (Nat.le_refl _) (by simp) ?_;(case hd=>rfl);(case hg=>rfl);(case hr=>go_simp <;> rfl);(case hp=>exact(Reps.c3 (show Kd.M k56 _ _ _ (⟨I,L,X⟩:S56) [.int .i64 I,.int .i64 L,.int .i64 X] from(Xi _ _ _ (⟨I,L,X⟩:S56))) (Reps.none _ _)))
     intro b6 dv ai hb hg_ hnew_
     clear hg_ hnew_
     (first|rw[← aw.out] at ai|(simp only[Int.reduceToNat] at ai;rw[← aw.out] at ai))
     have ζ :=Aside0.mk (Kd.Q2 (Kd.Xx ai (g:=a3) (o:=.cells #[.int .i64 I,.int .i64 L,.int .i64 X] 56 (0,0)) U.out) (Qj HB.out))
     replace Y:=sBk Y hb
     replace U:=sBk U hb
     replace HB:=sHb hb
     clear hb ai
     refine hK.out _ _ ⟨qc Y,qc Y,qc U,qc U,qc U⟩ (fun hHeld=>?_)
     clear hK K
     refine qN (some 25) ?_
     refine Zi (i:=2) (N:=some 22) (bN 8 63) rfl rfl (Q0 HT_.out kr) (by decide) (fun K hK=>?_)
     refine Zc Try.func55 kr rfl #[.slice μ J.length θ] (by rfl) rfl rfl qM ?_
     with_reducible refine(api_Hall_55.calls _ _ J τ _ ?side1 ?side2 b9.out).mono ?_
     (case side1=>exact(Kd.Qz ψ.out HB.out))
     (case side2=>exact a8.out)
     rintro e da ⟨an,rfl,ρ,hb⟩
     refine⟨_,rfl, ?_⟩
     have a1:=Aside0.mk (Kd.Q2 (Kd.Xx (Kd.Zr ρ (Kd.Z8 ζ.out)) (g:=a3) (o:=.cells #[.int .i64 I,.int .i64 L,.int .i64 X] 56 (0,0)) U.out) (Qj HB.out))
     replace ζ :=Aside0.mk (Kd.Zb ζ.out (Kd.Zf ρ) hb)
     replace Y:=sBk Y hb
     replace U:=sBk U hb
     replace HB:=sHb hb
     (try clear hb)
     (try clear a0)
     (try clear hk)
     (try clear hi)
     (try clear ρ)
     refine hK.out _ _ ⟨qc Y,qc Y,qc U,qc U,qc U⟩ (fun hHeld=>?_)
     clear hK K
     refine qN (some 22) ?_
     exact Xn (by simp only[Z9,Act.put,qS]) (hCont (an,b6) _ ⟨hHeld,(by(with_reducible repeat first|apply Kd.Qm|apply Kd.Ql|apply Kd.Qn);exact Kd.Qr a1.out (fun _ hk=>⟨hk.1.2,hk.2⟩)),(by(with_reducible repeat first|apply Kd.Qm|apply Kd.Ql|apply Kd.Qn);exact Kd.Qr ζ.out (fun _ hk=>⟨hk.2,hk.1.2⟩)),Y.out,U.out,HB.out⟩)
   rintro⟨an,b6⟩ bq ⟨hS_,cj,ck,cm,cn,co⟩
   have O:Aside0 (Kd.R k56 56 bq w.heap.size (fun k_=>some k_≠(b6:Value).ownBlock∧k_≠a3) an τ):=⟨cj⟩
   have Z:Aside0 (Kd.R k56 56 bq w.heap.size (fun k_=>some k_≠(an:Value).ownBlock∧k_≠a3) b6 B):=⟨ck⟩
   have ι :Aside0 (bq.heap[ε]?=some (.cells #[.slice μ J.length θ,.func (.func 51) #[] #[]] 69 (0,0))):=⟨cm⟩
   have κ :Aside0 (bq.heap[a3]?=some (.cells #[.int .i64 I,.int .i64 L,.int .i64 X] 56 (0,0))):=⟨cn⟩
   have ξ :Aside0 (Below w.heap.size w bq):=⟨co⟩
   clear Y
   clear U
   clear HB
   clear cj ck cm cn co
   have a1:=O
   have ζ :=Z
   have Y:= ι
   have U:= κ
   have HB:= ξ
   clear O Z ι κ ξ
   have hHeld:bq.cell? ⟨ε,0,none⟩=some (.slice μ J.length θ)∧bq.cell? ⟨ε,1,none⟩=some (.func (.func 51) #[] #[])∧bq.cell? ⟨a3,0,none⟩=some (.int .i64 I)∧bq.cell? ⟨a3,1,none⟩=some (.int .i64 L)∧bq.cell? ⟨a3,2,none⟩=some (.int .i64 X):=hS_
   obtain⟨d2,d4,dl⟩:=Kd.Q5 ζ.out
   (first|subst dl|(injection dl with φ a9 χ;have aa:= φ.symm;have ab:= χ.symm;clear φ a9 χ;subst aa;subst ab))
   refine Xn (a':=?_) ?_ ?_
   rotate_left
   ·simp only[Z9,Act.put,qS]
    rfl
   refine Zi (i:=6) (N:=some 26) (bN 8 127) rfl rfl (Q0 HT_.out kr) (by decide) (fun K hK=>?_)
   refine Zc Try.func63 kr rfl #[an,.int .i64 γ,.slice d2 B.length d4] (by rfl) rfl rfl qM ?_
   refine(Em _ w.heap.size (fun k_=>some k_≠(.slice d2 B.length d4:Value).ownBlock∧k_≠a3) _ an τ B _ γ d2 d4 aw.out ?aS ?aF ?aO ζ.out ?aN (by have h_:=ar.out;omega) (by have h_:=ar.out;omega) (by have h_:=ar.out;omega)).mono ?_
   (case aS=>exact(Qj HB.out))
   (case aF=>exact(fun k_ hk=>⟨Kd.fresh' (Kd.Z8 ζ.out) k_ hk,Kd.Xc (g:=a3) (o:=.cells #[.int .i64 I,.int .i64 L,.int .i64 X] 56 (0,0)) U.out k_ hk⟩))
   (case aO=>exact a1.out)
   (case aN=>exact fun k_ hk=>hk.1)
   rintro e e6 ⟨cf,rfl,ho,ba,hg,hat⟩
   refine⟨_,rfl, ?_⟩
   have hb:=HB.out.trans ba
   rw[← br.out] at ho
   have bv:=Aside0.mk ho
   replace Y:=Aside0.mk (Q8 (g:= ε) (o:=.cells #[.slice μ J.length θ,.func (.func 51) #[] #[]] 69 (0,0)) Y.out hg (Kd.Yx a1.out Y.out (by decide)))
   replace U:=Aside0.mk (Q8 (g:=a3) (o:=.cells #[.int .i64 I,.int .i64 L,.int .i64 X] 56 (0,0)) U.out hg (Kd.Xk a1.out (fun _ hk=>hk.2)))
   replace ζ :=Aside0.mk (Kd.Kh (ok:=(fun k_=>k_≠a3)) (by(with_reducible repeat first|apply Kd.Qm|apply Kd.Ql|apply Kd.Qn);exact Kd.Qr ζ.out (fun _ hk=>⟨hk.2,hk.1⟩)) hg hat)
   replace HB:=Aside0.mk hb
   clear a1
   clear ho hb hg hat
   refine hK.out _ _ ⟨qc Y,qc Y,qc U,qc U,qc U⟩ (fun hHeld=>?_)
   clear hK K
   refine qN (some 26) ?_
   refine qP 7 (some 4) (bN 8 255) HT_ ?_
   refine Zq (Zd HT_.out kr) ?_
   try go_wp2
   go_ret
   exact⟨_,rfl,by(with_reducible repeat first|apply Kd.Qm|apply Kd.Ql|apply Kd.Qn);exact Kd.Qr bv.out (fun _ hk=>trivial),HB.out⟩
  ·rw[if_neg a4] at H
   exact absurd H (by simp)
def api_Inside_with.f (k:Nat) (J:List (S62)) (D:Int) (I:Int) (L:Int):Option ((List (S62))):=(api_Inside_58.f k J I L D).bind fun η =>(if η.2=true then ((api_Inside_59.f J).bind fun bf=>(some bf)) else ((api_Inside_59.f J).bind fun X=>((some (([(⟨I,L⟩:S62)]:List (S62)):List (S62))).bind fun γ=>(if (X.length+γ.length<1000000000∧0 ≤ η.1 ∧ η.1≤(X.length:Int)) then (some (X.take η.1.toNat++γ++X.drop η.1.toNat)) else (none)))))
theorem api_Inside_with.mono:∀ D L a2 X k,LeO (api_Inside_with.f k D L a2 X) (api_Inside_with.f (k+1) D L a2 X):=by
 intro D L a2 X k
 unfold api_Inside_with.f
 repeat' first
   |(with_reducible exact api_Inside_58.mono _ _ _ _ _)
   |(with_reducible exact LeO.refl _)
   |(with_reducible exact LeO.none _)
   |(with_reducible refine LeO.ite ?_ ?_)
   |(with_reducible refine LeO.bind ?_ (fun _=>?_))
   |exact api_Inside_58.mono _ _ _ _ _
   |exact LeO.none _
   |refine LeO.ite ?_ ?_
   |refine LeO.bind ?_ (fun _=>?_)
def api_Inside_with.T4:Bool×List (List Nat×List Nat):=(true,[([],[]),([0],[0]),([1],[1]),([],[]),([],[]),([4],[4]),([2,3,5,2],[2,3,5]),([6,6,0,1,2,3,4,5,6],[6])])
def api_Inside_with.B4:List Nat:=[0,1,3,0,0,16,63,127]
theorem api_Inside_with.G0:rtab .any (opsOf Try.f33 4)=api_Inside_with.T4:=by kernel_rfl
theorem api_Inside_with.J9:Zv api_Inside_with.T4.2 api_Inside_with.B4=true:=by kernel_rfl
set_option maxHeartbeats 8000000 in
set_option maxRecDepth 100000 in
theorem api_Inside_with.calls (k:Nat) (μ :Option Addr) (θ :Nat) (J:List (S62)) (D:Int) (I:Int) (L:Int) (r:List (S62)) (w:World) (a2:Kd.C k62 w μ J.length J) (a6:J.length ≤ θ) (h:api_Inside_with.f k J D I L=some r):
  Calls Try.prog 33 #[.agg #[.slice μ J.length θ,.func (.func 57) #[] #[]],.agg #[.int .i64 I,.int .i64 L]] w fun e w'=>∃ ω :Value,e = .returned (ω)∧Kd.R k62 62 w' w.heap.size (fun _=>True) ω r∧Below w.heap.size w w':=by
 have bn:=Try.underlying74
 have b8:=Try.underlying62
 have ψ :=Aside0.mk a2
 have a8:=Aside0.mk a6
 clear a2 a6
 have HB:=Aside0.mk (Below.refl w.heap.size w)
 have H:((api_Inside_58.f k J I L D).bind fun η =>(if η.2=true then ((api_Inside_59.f J).bind fun bf=>(some bf)) else ((api_Inside_59.f J).bind fun X=>((some (([(⟨I,L⟩:S62)]:List (S62)):List (S62))).bind fun γ=>(if (X.length+γ.length<1000000000∧0 ≤ η.1 ∧ η.1≤(X.length:Int)) then (some (X.take η.1.toNat++γ++X.drop η.1.toNat)) else (none))))))=some r:=h
 clear h
 replace H:=Option.bind_eq_some_iff.mp H
 obtain⟨⟨ε,au⟩,ac,H⟩:=H
 replace H:(if au=true then ((api_Inside_59.f J).bind fun bf=>(some bf)) else ((api_Inside_59.f J).bind fun X=>((some (([(⟨I,L⟩:S62)]:List (S62)):List (S62))).bind fun γ=>(if (X.length+γ.length<1000000000∧0 ≤ ε ∧ ε ≤ (X.length:Int)) then (some (X.take ε.toNat++γ++X.drop ε.toNat)) else (none)))))=some r:=H
 have A3:=Aside0.mk ac
 clear ac
 by_cases c4:au=true
 ·subst c4
  have H1:((api_Inside_59.f J).bind fun bf=>(some bf))=some r:=by rw[if_pos rfl] at H;exact H
  clear H
  have H:=H1
  clear H1
  replace H:=Option.bind_eq_some_iff.mp H
  obtain⟨bf,bz,H⟩:=H
  replace H:(some bf)=some r:=H
  have A5:=Aside0.mk bz
  clear bz
  obtain rfl:=Option.some.inj H
  go_enter Try.func33,Try.ntmps33
  go_wp2_with (first|((with_reducible refine Qp (N:=2) rfl ?_);refine qE 2 #[.slice μ J.length θ,.func (.func 57) #[] #[]] 74 ?_;intro τ hg w6 hbox hb;have B:=Aside0.mk hbox;have az:=sGe hg;have b4:=sGe hg;replace HB:=sHb hb;clear hb hbox hg)|((with_reducible refine Qp (N:=3) rfl ?_);refine qE 3 #[.int .i64 I,.int .i64 L] 62 ?_;intro Y hg w7 hbox hb;have U:=Aside0.mk hbox;have b5:=sGe hg;have b6:=sGe hg;have a1:=sNl B hg;have a3:=sNg B hg;replace B:=sBk B hb;replace HB:=sHb hb;clear hb hbox hg;have bc:=a1.out;have cd:=a3.out;obtain⟨ae,bh,bi,bj⟩:=qD2 B.out;obtain⟨al,ax,bk,bl⟩:=qD2 U.out)|((with_reducible refine Q1 (f:=58) rfl ?_);refine Zp (some 13) rfl rfl Try.func58 kr rfl #[.slice μ J.length θ,.agg #[.int .i64 I,.int .i64 L],.func (.func 57) #[] #[]] rfl qM ?_;(with_reducible refine(api_Inside_58.calls k _ _ J I L D ε true _ ?side1 ?side2 A3.out).mono ?_);(case side1=>exact(Kd.Qz ψ.out HB.out));(case side2=>exact a8.out);rintro e dm ⟨rfl,hb⟩;refine⟨_,rfl, ?_⟩;replace B:=sBk B hb;replace U:=sBk U hb;replace HB:=sHb hb;(try clear hb);(try clear a0);(try clear hk);(try clear hi);obtain⟨b0,b1,b2,b3⟩:=qD2 B.out)|((with_reducible refine Q1 (f:=59) rfl ?_);refine Zp (some 19) rfl rfl Try.func59 kr rfl #[.slice μ J.length θ] rfl qM ?_;(with_reducible refine(api_Inside_59.calls _ _ J bf _ ?side1 ?side2 A5.out).mono ?_);(case side1=>exact(Kd.Qz ψ.out HB.out));(case side2=>exact a8.out);rintro e eb ⟨bo,rfl,ρ,hb⟩;refine⟨_,rfl, ?_⟩;have bb:=Aside0.mk (Kd.Q2 (Kd.Xx ρ (g:=Y) (o:=.cells #[.int .i64 I,.int .i64 L] 62 (0,0)) U.out) (Qj HB.out));replace B:=sBk B hb;replace U:=sBk U hb;replace HB:=sHb hb;(try clear hb);(try clear a0);(try clear hk);(try clear hi);(try clear ρ)))
  go_ret
  exact⟨_,rfl,by(with_reducible repeat first|apply Kd.Qm|apply Kd.Ql|apply Kd.Qn);exact Kd.Qr bb.out (fun _ hk=>trivial),HB.out⟩
 ·replace c4:=Bool.eq_false_iff.mpr c4
  subst c4
  have H1:((api_Inside_59.f J).bind fun X=>((some (([(⟨I,L⟩:S62)]:List (S62)):List (S62))).bind fun γ=>(if (X.length+γ.length<1000000000∧0 ≤ ε ∧ ε ≤ (X.length:Int)) then (some (X.take ε.toNat++γ++X.drop ε.toNat)) else (none))))=some r:=by rw[if_neg (show ¬ (false=true) by decide)] at H;exact H
  clear H
  have H:=H1
  clear H1
  replace H:=Option.bind_eq_some_iff.mp H
  obtain⟨X,b7,H⟩:=H
  replace H:((some (([(⟨I,L⟩:S62)]:List (S62)):List (S62))).bind fun γ=>(if (X.length+γ.length<1000000000∧0 ≤ ε ∧ ε ≤ (X.length:Int)) then (some (X.take ε.toNat++γ++X.drop ε.toNat)) else (none)))=some r:=H
  have b9:=Aside0.mk b7
  clear b7
  obtain⟨γ,aj⟩:∃ y_:List (S62),y_=(([(⟨I,L⟩:S62)]:List (S62))):=⟨_,rfl⟩
  replace H:(if (X.length+γ.length<1000000000∧0 ≤ ε ∧ ε ≤ (X.length:Int)) then (some (X.take ε.toNat++γ++X.drop ε.toNat)) else (none))=some r:=by first|(rw[aj];with_reducible exact H)|(have δ :=(Option.bind_some _ _).symm.trans H;rw[aj];with_reducible exact δ)|(have δ :=(Option.bind_some _ _).symm.trans H;with_reducible exact δ)|with_reducible exact H|(rw[aj];exact H)|exact H
  have an:=Aside0.mk aj
  clear aj
  by_cases a4:(X.length+γ.length<1000000000∧0 ≤ ε ∧ ε ≤ (X.length:Int))
  ·rw[if_pos a4] at H
   have ar:=Aside0.mk a4
   clear a4
   obtain⟨bm,aw⟩:∃ y_:List (S62),y_=(X.take ε.toNat++γ++X.drop ε.toNat):=⟨_,rfl⟩
   replace H:(some bm)=some r:=by first|(rw[aw];with_reducible exact H)|(have δ :=(Option.bind_some _ _).symm.trans H;rw[aw];with_reducible exact δ)|(have δ :=(Option.bind_some _ _).symm.trans H;with_reducible exact δ)|with_reducible exact H|(rw[aw];exact H)|exact H
   have bg:=Aside0.mk aw
   clear aw
   obtain rfl:=Option.some.inj H
   go_enter Try.func33,Try.ntmps33
   try go_wp2_with (first|((with_reducible refine Qp (N:=2) rfl ?_);refine qE 2 #[.slice μ J.length θ,.func (.func 57) #[] #[]] 74 ?_;intro τ hg af hbox hb;have B:=Aside0.mk hbox;have az:=sGe hg;have b4:=sGe hg;replace HB:=sHb hb;clear hb hbox hg)|((with_reducible refine Qp (N:=3) rfl ?_);refine qE 3 #[.int .i64 I,.int .i64 L] 62 ?_;intro Y hg g6 hbox hb;have U:=Aside0.mk hbox;have b5:=sGe hg;have b6:=sGe hg;have a1:=sNl B hg;have a3:=sNg B hg;replace B:=sBk B hb;replace HB:=sHb hb;clear hb hbox hg;have ca:=a1.out;have cb:=a3.out;obtain⟨am,ao,ap,av⟩:=qD2 B.out;obtain⟨ah,ak,bd,be⟩:=qD2 U.out)|((with_reducible refine Q1 (f:=58) rfl ?_);refine Zp (some 13) rfl rfl Try.func58 kr rfl #[.slice μ J.length θ,.agg #[.int .i64 I,.int .i64 L],.func (.func 57) #[] #[]] rfl qM ?_;(with_reducible refine(api_Inside_58.calls k _ _ J I L D ε false _ ?side1 ?side2 A3.out).mono ?_);(case side1=>exact(Kd.Qz ψ.out HB.out));(case side2=>exact a8.out);rintro e bp ⟨rfl,hb⟩;refine⟨_,rfl, ?_⟩;replace B:=sBk B hb;replace U:=sBk U hb;replace HB:=sHb hb;(try clear hb);(try clear a0);(try clear hk);(try clear hi)))
   replace B:=Aside0.mk (Qb B.out)
   replace U:=Aside0.mk (Qb U.out)
   replace HB:=Aside0.mk (Qe HB.out)
   refine Ze (n:=8) (S:=fun w'=>w'.cell? ⟨τ,0,none⟩=some (.slice μ J.length θ)∧w'.cell? ⟨τ,1,none⟩=some (.func (.func 57) #[] #[])∧w'.cell? ⟨Y,0,none⟩=some (.int .i64 I)∧w'.cell? ⟨Y,1,none⟩=some (.int .i64 L)) (ds:=[]) #[false,false,false,false,false,false,false,false] kr rfl rfl ⟨(Qi B.out 0).trans rfl,(Qi B.out 1).trans rfl,(Qi U.out 0).trans rfl,(Qi U.out 1).trans rfl⟩ (fun hHeld=>?_);refine Q4 api_Inside_with.G0 api_Inside_with.J9 (fun HT_ HW_=>?_)
   generalize bp.drew=dr at B U HB hHeld ⊢
   refine qP 0 (some 20) (bN 8 1) HT_ ?_
   refine qP 3 (some 23) (bN 8 9) HT_ ?_
   refine qT 1 (some 21) (bN 8 11) HT_ HW_ hHeld ?_
   refine qT 4 (some 24) (bN 8 27) HT_ HW_ hHeld ?_
   refine Gl (σ:=Value×Value) 2 (bN 8 63) (fun s_=>[(22,s_.1),(25,s_.2)]) (fun s_ w'=>(w'.cell? ⟨τ,0,none⟩=some (.slice μ J.length θ)∧w'.cell? ⟨τ,1,none⟩=some (.func (.func 57) #[] #[])∧w'.cell? ⟨Y,0,none⟩=some (.int .i64 I)∧w'.cell? ⟨Y,1,none⟩=some (.int .i64 L))∧(Kd.R k62 62 w' w.heap.size (fun k_=>some k_≠(s_.2:Value).ownBlock∧k_≠Y) s_.1 X)∧(Kd.R k62 62 w' w.heap.size (fun k_=>some k_≠(s_.1:Value).ownBlock∧k_≠Y) s_.2 γ)∧(w'.heap[τ]?=some (.cells #[.slice μ J.length θ,.func (.func 57) #[] #[]] 74 (0,0)))∧(w'.heap[Y]?=some (.cells #[.int .i64 I,.int .i64 L] 62 (0,0)))∧(Below w.heap.size w w')) ?_ ?_
   rotate_left
   ·intro hCont
    refine Ks (i:=2) (j:=5) (Ni:=some 22) (Nj:=some 25) (bN 8 31) (bN 8 59) rfl rfl rfl rfl (Yn HT_.out kr) (by decide) (by decide) (fun K hK=>?_) (fun K hK=>?_)
    ·skip
     refine Zc Try.func59 kr rfl #[.slice μ J.length θ] (by rfl) rfl rfl qM ?_
     with_reducible refine(api_Inside_59.calls _ _ J X _ ?side1 ?side2 b9.out).mono ?_
     (case side1=>exact(Kd.Qz ψ.out HB.out))
     (case side2=>exact a8.out)
     rintro e dv ⟨a7,rfl,ρ,hb⟩
     refine⟨_,rfl, ?_⟩
     have ν :=Aside0.mk (Kd.Q2 (Kd.Xx ρ (g:=Y) (o:=.cells #[.int .i64 I,.int .i64 L] 62 (0,0)) U.out) (Qj HB.out))
     replace B:=sBk B hb
     replace U:=sBk U hb
     replace HB:=sHb hb
     (try clear hb)
     (try clear a0)
     (try clear hk)
     (try clear hi)
     (try clear ρ)
     refine hK.out _ _ ⟨qc B,qc B,qc U,qc U⟩ (fun hHeld=>?_)
     clear hK K
     refine qN (some 22) ?_
     refine Zi (i:=5) (N:=some 25) (bN 8 63) rfl rfl (Q0 HT_.out kr) (by decide) (fun K hK=>?_)
     refine Kd.Xp k62 _ 62 ?hg (N:=25) ?hd (xs:=([(⟨I,L⟩:S62)]:List (S62))) (inner:=[.int .i64 I,.int .i64 L]) (ok:=fun _=>True) (okp:=fun _=>True) ?hr ?hp (fun _ hk=>hk) trivial (Below.refl _ _) (Nat.le_refl _) (by simp) ?_;(case hd=>rfl);(case hg=>rfl);(case hr=>go_simp <;> rfl);(case hp=>exact(Reps.c2 (show Kd.M k62 _ _ _ (⟨I,L⟩:S62) [.int .i64 I,.int .i64 L] from(Yb _ _ _ (⟨I,L⟩:S62))) (Reps.none _ _)))
     intro ay bu ag hb hg_ hnew_
     clear hg_ hnew_
     (first|rw[← an.out] at ag|(simp only[Int.reduceToNat] at ag;rw[← an.out] at ag))
     have ζ :=Aside0.mk (Kd.Q2 (Kd.Xx (Kd.Zr ag (Kd.Z8 ν.out)) (g:=Y) (o:=.cells #[.int .i64 I,.int .i64 L] 62 (0,0)) U.out) (Qj HB.out))
     replace ν :=Aside0.mk (Kd.Zb ν.out (Kd.Zf ag) hb)
     replace B:=sBk B hb
     replace U:=sBk U hb
     replace HB:=sHb hb
     clear hb ag
     refine hK.out _ _ ⟨qc B,qc B,qc U,qc U⟩ (fun hHeld=>?_)
     clear hK K
     refine qN (some 25) ?_
     exact Xn (by simp only[Z9,Act.put,qS]) (hCont (a7,ay) _ ⟨hHeld,(by(with_reducible repeat first|apply Kd.Qm|apply Kd.Ql|apply Kd.Qn);exact Kd.Qr ν.out (fun _ hk=>⟨hk.2,hk.1.2⟩)),(by(with_reducible repeat first|apply Kd.Qm|apply Kd.Ql|apply Kd.Qn);exact Kd.Qr ζ.out (fun _ hk=>⟨hk.1.2,hk.2⟩)),B.out,U.out,HB.out⟩)
    ·skip
     refine Kd.Xp k62 _ 62 ?hg (N:=25) ?hd (xs:=([(⟨I,L⟩:S62)]:List (S62))) (inner:=[.int .i64 I,.int .i64 L]) (ok:=fun _=>True) (okp:=fun _=>True) ?hr ?hp (fun _ hk=>hk) trivial (Below.refl _ _) (Nat.le_refl _) (by simp) ?_;(case hd=>rfl);(case hg=>rfl);(case hr=>go_simp <;> rfl);(case hp=>exact(Reps.c2 (show Kd.M k62 _ _ _ (⟨I,L⟩:S62) [.int .i64 I,.int .i64 L] from(Yb _ _ _ (⟨I,L⟩:S62))) (Reps.none _ _)))
     intro ay dv ai hb hg_ hnew_
     clear hg_ hnew_
     (first|rw[← an.out] at ai|(simp only[Int.reduceToNat] at ai;rw[← an.out] at ai))
     have ζ :=Aside0.mk (Kd.Q2 (Kd.Xx ai (g:=Y) (o:=.cells #[.int .i64 I,.int .i64 L] 62 (0,0)) U.out) (Qj HB.out))
     replace B:=sBk B hb
     replace U:=sBk U hb
     replace HB:=sHb hb
     clear hb ai
     refine hK.out _ _ ⟨qc B,qc B,qc U,qc U⟩ (fun hHeld=>?_)
     clear hK K
     refine qN (some 25) ?_
     refine Zi (i:=2) (N:=some 22) (bN 8 63) rfl rfl (Q0 HT_.out kr) (by decide) (fun K hK=>?_)
     refine Zc Try.func59 kr rfl #[.slice μ J.length θ] (by rfl) rfl rfl qM ?_
     with_reducible refine(api_Inside_59.calls _ _ J X _ ?side1 ?side2 b9.out).mono ?_
     (case side1=>exact(Kd.Qz ψ.out HB.out))
     (case side2=>exact a8.out)
     rintro e da ⟨a7,rfl,ρ,hb⟩
     refine⟨_,rfl, ?_⟩
     have ν :=Aside0.mk (Kd.Q2 (Kd.Xx (Kd.Zr ρ (Kd.Z8 ζ.out)) (g:=Y) (o:=.cells #[.int .i64 I,.int .i64 L] 62 (0,0)) U.out) (Qj HB.out))
     replace ζ :=Aside0.mk (Kd.Zb ζ.out (Kd.Zf ρ) hb)
     replace B:=sBk B hb
     replace U:=sBk U hb
     replace HB:=sHb hb
     (try clear hb)
     (try clear a0)
     (try clear hk)
     (try clear hi)
     (try clear ρ)
     refine hK.out _ _ ⟨qc B,qc B,qc U,qc U⟩ (fun hHeld=>?_)
     clear hK K
     refine qN (some 22) ?_
     exact Xn (by simp only[Z9,Act.put,qS]) (hCont (a7,ay) _ ⟨hHeld,(by(with_reducible repeat first|apply Kd.Qm|apply Kd.Ql|apply Kd.Qn);exact Kd.Qr ν.out (fun _ hk=>⟨hk.1.2,hk.2⟩)),(by(with_reducible repeat first|apply Kd.Qm|apply Kd.Ql|apply Kd.Qn);exact Kd.Qr ζ.out (fun _ hk=>⟨hk.2,hk.1.2⟩)),B.out,U.out,HB.out⟩)
   rintro⟨a7,ay⟩ bq ⟨hS_,cj,ck,cm,cn,co⟩
   have O:Aside0 (Kd.R k62 62 bq w.heap.size (fun k_=>some k_≠(ay:Value).ownBlock∧k_≠Y) a7 X):=⟨cj⟩
   have Z:Aside0 (Kd.R k62 62 bq w.heap.size (fun k_=>some k_≠(a7:Value).ownBlock∧k_≠Y) ay γ):=⟨ck⟩
   have ι :Aside0 (bq.heap[τ]?=some (.cells #[.slice μ J.length θ,.func (.func 57) #[] #[]] 74 (0,0))):=⟨cm⟩
   have κ :Aside0 (bq.heap[Y]?=some (.cells #[.int .i64 I,.int .i64 L] 62 (0,0))):=⟨cn⟩
   have ξ :Aside0 (Below w.heap.size w bq):=⟨co⟩
   clear B
   clear U
   clear HB
   clear cj ck cm cn co
   have ν :=O
   have ζ :=Z
   have B:= ι
   have U:= κ
   have HB:= ξ
   clear O Z ι κ ξ
   have hHeld:bq.cell? ⟨τ,0,none⟩=some (.slice μ J.length θ)∧bq.cell? ⟨τ,1,none⟩=some (.func (.func 57) #[] #[])∧bq.cell? ⟨Y,0,none⟩=some (.int .i64 I)∧bq.cell? ⟨Y,1,none⟩=some (.int .i64 L):=hS_
   obtain⟨d2,d4,dl⟩:=Kd.Q5 ζ.out
   (first|subst dl|(injection dl with φ a9 χ;have aa:= φ.symm;have ab:= χ.symm;clear φ a9 χ;subst aa;subst ab))
   refine Xn (a':=?_) ?_ ?_
   rotate_left
   ·simp only[Z9,Act.put,qS]
    rfl
   refine Zi (i:=6) (N:=some 26) (bN 8 127) rfl rfl (Q0 HT_.out kr) (by decide) (fun K hK=>?_)
   refine Zc Try.func60 kr rfl #[a7,.int .i64 ε,.slice d2 γ.length d4] (by rfl) rfl rfl qM ?_
   refine(El _ w.heap.size (fun k_=>some k_≠(.slice d2 γ.length d4:Value).ownBlock∧k_≠Y) _ a7 X γ _ ε d2 d4 an.out ?aS ?aF ?aO ζ.out ?aN (by have h_:=ar.out;omega) (by have h_:=ar.out;omega) (by have h_:=ar.out;omega)).mono ?_
   (case aS=>exact(Qj HB.out))
   (case aF=>exact(fun k_ hk=>⟨Kd.fresh' (Kd.Z8 ζ.out) k_ hk,Kd.Xc (g:=Y) (o:=.cells #[.int .i64 I,.int .i64 L] 62 (0,0)) U.out k_ hk⟩))
   (case aO=>exact ν.out)
   (case aN=>exact fun k_ hk=>hk.1)
   rintro e e6 ⟨gk,rfl,ho,ba,hg,hat⟩
   refine⟨_,rfl, ?_⟩
   have hb:=HB.out.trans ba
   rw[← bg.out] at ho
   have a5:=Aside0.mk ho
   replace B:=Aside0.mk (Q8 (g:= τ) (o:=.cells #[.slice μ J.length θ,.func (.func 57) #[] #[]] 74 (0,0)) B.out hg (Kd.Yx ν.out B.out (by decide)))
   replace U:=Aside0.mk (Q8 (g:=Y) (o:=.cells #[.int .i64 I,.int .i64 L] 62 (0,0)) U.out hg (Kd.Xk ν.out (fun _ hk=>hk.2)))
   replace ζ :=Aside0.mk (Kd.Kh (ok:=(fun k_=>k_≠Y)) (by(with_reducible repeat first|apply Kd.Qm|apply Kd.Ql|apply Kd.Qn);exact Kd.Qr ζ.out (fun _ hk=>⟨hk.2,hk.1⟩)) hg hat)
   replace HB:=Aside0.mk hb
   clear ν
   clear ho hb hg hat
   refine hK.out _ _ ⟨qc B,qc B,qc U,qc U⟩ (fun hHeld=>?_)
   clear hK K
   refine qN (some 26) ?_
   refine qP 7 (some 4) (bN 8 255) HT_ ?_
   refine Zq (Zd HT_.out kr) ?_
   try go_wp2
   go_ret
   exact⟨_,rfl,by(with_reducible repeat first|apply Kd.Qm|apply Kd.Ql|apply Kd.Qn);exact Kd.Qr a5.out (fun _ hk=>trivial),HB.out⟩
  ·rw[if_neg a4] at H
   exact absurd H (by simp)
end Go.Proofs.Ytjehhhlhalkieaa.C
namespace Go.Proofs.Ytjehhhlhalkieaa.C
open Go.RowKit Go.Proofs.YtjehhhlhalkieaaW.PrintWords Go.Proofs.YtjehhhlhalkieaaW.PrintLast Go.Proofs.YtjehhhlhalkieaaW.PrintMore
set_option linter.unusedVariables false
theorem K5 {α:Type} (q:α→Bool) (l:List α) (p:Nat) (h1:∀ y ∈ l.take p,q y=true) (O:∀ y ∈ l.drop p,q y=false):l.filter q=l.take p∧l.filter (fun y=> !q y)=l.drop p:=by
  have e:=List.take_append_drop p l
  constructor
  · conv=>lhs;rw[← e]
    rw[List.filter_append,List.filter_eq_self.2 h1,List.filter_eq_nil_iff.2 (fun y hy=>by rw[O y hy];decide),List.append_nil]
  · conv=>lhs;rw[← e]
    rw[List.filter_append,List.filter_eq_nil_iff.2 (fun y hy=>by rw[h1 y hy];decide),List.filter_eq_self.2 (fun y hy=>by rw[O y hy];rfl),List.nil_append]
def Ys (x:S56) (l:List S56):List S56:=if l.any (fun y=>Zz y.f0 y.f1 x.f0 x.f1==0) then l else l.filter (fun y=>decide (Zz y.f0 y.f1 x.f0 x.f1<0)) ++ [x]++l.filter (fun y=> !decide (Zz y.f0 y.f1 x.f0 x.f1<0))
def withP_H.f (D J X:Int) (l:List S56):Option (List S56):=if small (l.length+2) J=true∧Call.Zs (fun _=>true) Call.ltH none l=true then some (Ys ⟨D,J,X⟩ l) else none
set_option maxHeartbeats 1000000 in
theorem Vi (A0:Option Addr) (c:Nat) (l:List S56) (D J X:Int) (t:List S56) (W:World) (hr:Kd.C k56 W A0 l.length l) (hc:l.length≤c) (h:withP_H.f D J X l=some t):
    Calls Try.prog 35 #[.agg #[.slice A0 l.length c,.func (.func 51) #[] #[]],.agg #[.int .i64 D,.int .i64 J,.int .i64 X]] W fun e w'=>∃ ω :Value,e = .returned ω ∧ Kd.R k56 56 w' W.heap.size (fun _=>True) ω t∧Below W.heap.size W w':=by
  unfold withP_H.f at h
  split at h
  case isFalse=>cases h
  case isTrue hs=>
  cases h
  obtain⟨hl,hb⟩:=of_decide_eq_true hs.1
  have hso:=((Call.Ji (fun _=>true) l).1 hs.2).2
  refine api_Hall_with.calls (l.length+2) A0 c l 0 D J X _ W hr hc ?_
  unfold api_Hall_with.f api_Hall_55.f
  have hl':l.length<1000000000:=by omega
  obtain⟨p,hp,e⟩:=Call.G2 l D J X 0 (by omega) hso (l.length+2) (by omega)
  obtain⟨h1,O,L⟩:=hp
  rw[e]
  simp only[Option.bind_some,if_pos hl',Int.toNat_natCast]
  have hany:l.any (fun y=>Zz y.f0 y.f1 D J==0)=Call.Gc l D J p:=by
    unfold Call.Gc
    rcases Nat.lt_or_ge p l.length with hlt|hge
    · rw[List.getElem?_eq_getElem hlt]
      simp only
      obtain⟨b,hb⟩:∃ b,(Zz l[p].f0 l[p].f1 D J==0)=b:=⟨_,rfl⟩
      rw[hb]
      cases b
      · rw[List.any_eq_false]
        intro y hy hq
        obtain⟨m,hm,rfl⟩:=List.mem_iff_getElem.1 hy
        have B:Zz l[m].f0 l[m].f1 D J=0:=by simpa using hq
        rw[Call.Xt] at B
        rcases Nat.lt_trichotomy m p with U|he|hgt
        · have:=O l[m] (List.mem_iff_getElem.2 ⟨m,by rw[List.length_take];omega,by rw[List.getElem_take]⟩)
          rw[Call.X0] at this
          omega
        · subst he
          rw[← Call.Xt] at B
          rw[B] at hb
          cases hb
        · have Y:=L l[p] (List.mem_iff_getElem.2 ⟨0,by rw[List.length_drop];omega,by rw[List.getElem_drop];rfl⟩)
          rw[Call.X0] at Y
          have I:=List.pairwise_iff_getElem.1 hso p m hlt hm hgt
          rw[Call.Ya] at I
          omega
      · exact List.any_eq_true.2 ⟨l[p],List.getElem_mem hlt,hb⟩
    · rw[List.getElem?_eq_none hge]
      simp only
      rw[List.any_eq_false]
      intro y hy hq
      have:=O y (by rw[List.take_of_length_le hge];exact hy)
      rw[Call.X0] at this
      have B:Zz y.f0 y.f1 D J=0:=by simpa using hq
      rw[Call.Xt] at B
      omega
  have hsp:=K5 (fun y=>decide (Zz y.f0 y.f1 D J<0)) l p (fun y hy=>decide_eq_true (O y hy)) (fun y hy=>decide_eq_false (L y hy))
  obtain⟨b,hm⟩:∃ b,Call.Gc l D J p=b:=⟨_,rfl⟩
  unfold Ys
  rw[hm] at hany ⊢
  simp only[hany,hsp.1,hsp.2]
  cases b
  · simp only[Bool.false_eq_true,if_false]
    rw[if_pos ⟨by simp only[List.length_cons,List.length_nil];omega,by omega,by omega⟩]
  · simp only[if_true]
def Yz (x:S62) (l:List S62):List S62:=if l.any (fun y=>Zz y.f0 y.f1 x.f0 x.f1==0) then l else l.filter (fun y=>decide (Zz y.f0 y.f1 x.f0 x.f1<0)) ++ [x]++l.filter (fun y=> !decide (Zz y.f0 y.f1 x.f0 x.f1<0))
def withP_I.f (D J:Int) (l:List S62):Option (List S62):=if small (l.length+2) J=true∧Call.Zs (fun _=>true) Call.ltI none l=true then some (Yz ⟨D,J⟩ l) else none
set_option maxHeartbeats 1000000 in
theorem Vh (A0:Option Addr) (c:Nat) (l:List S62) (D J:Int) (t:List S62) (W:World) (hr:Kd.C k62 W A0 l.length l) (hc:l.length≤c) (h:withP_I.f D J l=some t):
    Calls Try.prog 33 #[.agg #[.slice A0 l.length c,.func (.func 57) #[] #[]],.agg #[.int .i64 D,.int .i64 J]] W fun e w'=>∃ ω :Value,e = .returned ω ∧ Kd.R k62 62 w' W.heap.size (fun _=>True) ω t∧Below W.heap.size W w':=by
  unfold withP_I.f at h
  split at h
  case isFalse=>cases h
  case isTrue hs=>
  cases h
  obtain⟨hl,hb⟩:=of_decide_eq_true hs.1
  have hso:=((Call.J5 (fun _=>true) l).1 hs.2).2
  refine api_Inside_with.calls (l.length+2) A0 c l 0 D J _ W hr hc ?_
  unfold api_Inside_with.f api_Inside_59.f
  have hl':l.length<1000000000:=by omega
  obtain⟨p,hp,e⟩:=Call.U9 l D J 0 (by omega) hso (l.length+2) (by omega)
  obtain⟨h1,O,L⟩:=hp
  rw[e]
  simp only[Option.bind_some,if_pos hl',Int.toNat_natCast]
  have hany:l.any (fun y=>Zz y.f0 y.f1 D J==0)=Call.Wp l D J p:=by
    unfold Call.Wp
    rcases Nat.lt_or_ge p l.length with hlt|hge
    · rw[List.getElem?_eq_getElem hlt]
      simp only
      obtain⟨b,hb⟩:∃ b,(Zz l[p].f0 l[p].f1 D J==0)=b:=⟨_,rfl⟩
      rw[hb]
      cases b
      · rw[List.any_eq_false]
        intro y hy hq
        obtain⟨m,hm,rfl⟩:=List.mem_iff_getElem.1 hy
        have B:Zz l[m].f0 l[m].f1 D J=0:=by simpa using hq
        rw[Call.Xt] at B
        rcases Nat.lt_trichotomy m p with U|he|hgt
        · have:=O l[m] (List.mem_iff_getElem.2 ⟨m,by rw[List.length_take];omega,by rw[List.getElem_take]⟩)
          rw[Call.X0] at this
          omega
        · subst he
          rw[← Call.Xt] at B
          rw[B] at hb
          cases hb
        · have Y:=L l[p] (List.mem_iff_getElem.2 ⟨0,by rw[List.length_drop];omega,by rw[List.getElem_drop];rfl⟩)
          rw[Call.X0] at Y
          have I:=List.pairwise_iff_getElem.1 hso p m hlt hm hgt
          rw[Call.Y0] at I
          omega
      · exact List.any_eq_true.2 ⟨l[p],List.getElem_mem hlt,hb⟩
    · rw[List.getElem?_eq_none hge]
      simp only
      rw[List.any_eq_false]
      intro y hy hq
      have:=O y (by rw[List.take_of_length_le hge];exact hy)
      rw[Call.X0] at this
      have B:Zz y.f0 y.f1 D J=0:=by simpa using hq
      rw[Call.Xt] at B
      omega
  have hsp:=K5 (fun y=>decide (Zz y.f0 y.f1 D J<0)) l p (fun y hy=>decide_eq_true (O y hy)) (fun y hy=>decide_eq_false (L y hy))
  obtain⟨b,hm⟩:∃ b,Call.Wp l D J p=b:=⟨_,rfl⟩
  unfold Yz
  rw[hm] at hany ⊢
  simp only[hany,hsp.1,hsp.2]
  cases b
  · simp only[Bool.false_eq_true,if_false]
    rw[if_pos ⟨by simp only[List.length_cons,List.length_nil];omega,by omega,by omega⟩]
  · simp only[if_true]
end Go.Proofs.Ytjehhhlhalkieaa.C
namespace Go.Proofs.Ytjehhhlhalkieaa.C
open Go.RowKit Go.Proofs.YtjehhhlhalkieaaW.PrintWords Go.Proofs.YtjehhhlhalkieaaW.PrintLast Go.Proofs.YtjehhhlhalkieaaW.PrintMore
attribute [local go_sem] Z4 Z2 Xe Xd Zx Zw Z3 Z1
set_option linter.unusedVariables false
set_option linter.unusedSimpArgs false
def call_Press.j0:Nat→Int→Int→List (S56)→List (S62)→Int→Int→Int→Option ((List (S56))×(List (S62))×Int)
 |0,_,_,_,_,_,_,_=>none
 |k+1,J,L,O,U,B,D,I=>(hallP.f B D I J L).bind fun ah=>((call_change.f (withP_H.f B D I O) (woP_I.f (-2) 0 U) k J L O U ah 0 B D I 0 (-2) 0).bind fun bp=>(some (bp.1,bp.2.1,bp.2.2)))
def call_Press.f (k:Nat) (J:Int) (D:Int) (B:List (S56)) (I:List (S62)) (δ :Int) (L:Int) (θ :Int):Option ((List (S56))×(List (S62))×Int):=if δ = 0 then (call_Press.j0 k J D B I L 1 (-1)) else (if δ = 1 then (call_Press.j0 k J D B I L (-1) (-1)) else (if δ = 2 then ((insP.f θ L J D).bind fun τ =>((call_change.f (woP_H.f (-2) 0 0 B) (withP_I.f θ L I) k J D B I τ 0 (-2) 0 0 0 θ L).bind fun bd=>(some (bd.1,bd.2.1,bd.2.2)))) else (call_Press.j0 k J D B I L 0 (-1))))
theorem call_Press.Zn:∀ k,(∀ I L U D J X Y,LeO (call_Press.j0 k I L U D J X Y) (call_Press.j0 (k+1) I L U D J X Y))
 |0=>fun _ _ _ _ _ _ _ r h=>by simp[call_Press.j0] at h
 |k+1=>by
  have B:=call_Press.Zn k
  ·intro I L U D J X Y
   unfold call_Press.j0
   repeat' first
   |(with_reducible exact B _ _ _ _ _ _ _)
   |(with_reducible exact call_change.mono _ _ _ _ _ _ _ _ _ _ _ _ _ _ _)
   |(with_reducible exact LeO.refl _)
   |(with_reducible exact LeO.none _)
   |(with_reducible refine LeO.ite ?_ ?_)
   |(with_reducible refine LeO.bind ?_ (fun _=>?_))
   |exact B _ _ _ _ _ _ _
   |exact call_change.mono _ _ _ _ _ _ _ _ _ _ _ _ _ _ _
   |exact LeO.none _
   |refine LeO.ite ?_ ?_
   |refine LeO.bind ?_ (fun _=>?_)
theorem call_Press.mono:∀ D L a2 X I a5 J k,LeO (call_Press.f k D L a2 X I a5 J) (call_Press.f (k+1) D L a2 X I a5 J):=by
 intro D L a2 X I a5 J k
 have B:=call_Press.Zn k
 unfold call_Press.f
 repeat' first
   |(with_reducible exact B _ _ _ _ _ _ _)
   |(with_reducible exact call_change.mono _ _ _ _ _ _ _ _ _ _ _ _ _ _ _)
   |(with_reducible exact LeO.refl _)
   |(with_reducible exact LeO.none _)
   |(with_reducible refine LeO.ite ?_ ?_)
   |(with_reducible refine LeO.bind ?_ (fun _=>?_))
   |exact B _ _ _ _ _ _ _
   |exact call_change.mono _ _ _ _ _ _ _ _ _ _ _ _ _ _ _
   |exact LeO.none _
   |refine LeO.ite ?_ ?_
   |refine LeO.bind ?_ (fun _=>?_)
def call_Press.T9:Bool×List (List Nat×List Nat):=(true,[([],[]),([],[]),([],[]),([2],[2]),([],[]),([3,4,3],[3,4]),([],[]),([6,5],[6]),([7],[7]),([],[]),([],[]),([10,7],[10]),([11],[11]),([],[]),([0,1,5,8,9,12,13,11],[0,1,5,8,9,12,13]),([14],[14]),([14],[14]),([15,14,0,1,2,3,4,5,6,7,8,9,10,11,12,13,14,15,16],[15]),([16,17,0,1,2,3,4,5,6,7,8,9,10,11,12,13,14,15,16,17],[16])])
def call_Press.B9:List Nat:=[0,0,0,4,0,28,0,124,252,0,0,1276,3324,0,16383,32767,32767,131071,262143]
theorem call_Press.U7:rtab .any (opsOf Try.f11 9)=call_Press.T9:=by kernel_rfl
theorem call_Press.Vb:Zv call_Press.T9.2 call_Press.B9=true:=by kernel_rfl
def call_Press.T10:Bool×List (List Nat×List Nat):=(true,[([],[]),([],[]),([],[]),([2],[2]),([],[]),([3,4,3],[3,4]),([],[]),([6,5],[6]),([7],[7]),([],[]),([],[]),([10,7],[10]),([11],[11]),([],[]),([0,1,5,8,9,12,13,11],[0,1,5,8,9,12,13]),([14],[14]),([14],[14]),([15,14,0,1,2,3,4,5,6,7,8,9,10,11,12,13,14,15,16],[15]),([16,17,0,1,2,3,4,5,6,7,8,9,10,11,12,13,14,15,16,17],[16])])
def call_Press.B10:List Nat:=[0,0,0,4,0,28,0,124,252,0,0,1276,3324,0,16383,32767,32767,131071,262143]
theorem call_Press.tab10:rtab .any (opsOf Try.f11 10)=call_Press.T10:=by kernel_rfl
theorem call_Press.Eo:Zv call_Press.T10.2 call_Press.B10=true:=by kernel_rfl
set_option maxHeartbeats 8000000 in
set_option maxRecDepth 100000 in
theorem call_Press.calls (k:Nat) (J:Int) (D:Int) (ζ :Option Addr) (γ:Nat) (B:List (S56)) (η :Option Addr) (ε :Nat) (I:List (S62)) (δ :Int) (L:Int) (θ :Int) (r1:List (S56)) (r2:List (S62)) (r3:Int) (w:World) (b4:Kd.C k56 w ζ B.length B) (b5:B.length≤γ) (b6:Kd.C k62 w η I.length I) (b7:I.length ≤ ε) (h:call_Press.f k J D B I δ L θ = some (r1,r2,r3)):
  Calls Try.prog 11 #[.agg #[.int .i64 J,.int .i64 D],.agg #[.slice ζ B.length γ,.slice η I.length ε],.agg #[.int .i64 δ,.int .i64 L,.int .i64 θ]] w fun e w'=>∃ ω ba:Value,e = .returned (.tuple #[.agg #[ω,ba],.int .i64 r3])∧Kd.R k56 56 w' w.heap.size (fun _=>True) ω r1∧Kd.R k62 62 w' w.heap.size (fun _=>True) ba r2∧Below w.heap.size w w':=by
 have dk:=Try.underlying23
 have d6:=Try.underlying27
 have gf:=Try.underlying29
 have ay:=Try.underlying56
 have b8:=Try.underlying62
 have ag:=Aside0.mk b4
 have ar:=Aside0.mk b5
 clear b4 b5
 have ai:=Aside0.mk b6
 have au:=Aside0.mk b7
 clear b6 b7
 have HB:=Aside0.mk (Below.refl w.heap.size w)
 have H:(if δ = 0 then (call_Press.j0 k J D B I L 1 (-1)) else (if δ = 1 then (call_Press.j0 k J D B I L (-1) (-1)) else (if δ = 2 then ((insP.f θ L J D).bind fun τ =>((call_change.f (woP_H.f (-2) 0 0 B) (withP_I.f θ L I) k J D B I τ 0 (-2) 0 0 0 θ L).bind fun bd=>(some (bd.1,bd.2.1,bd.2.2)))) else (call_Press.j0 k J D B I L 0 (-1)))))=some (r1,r2,r3):=h
 clear h
 have gg:=Aside0.mk H
 clear H
 go_enter Try.func11,Try.ntmps11
 go_upto_block 0 with(first|((with_reducible refine Qp (N:=3) rfl ?_);refine qE 3 #[.int .i64 J,.int .i64 D] 23 ?_;intro a6 hg w5 hbox hb;have X:=Aside0.mk hbox;have aw:=sGe hg;have cr:=sGe hg;replace HB:=sHb hb;clear hb hbox hg)|((with_reducible refine Qp (N:=4) rfl ?_);refine qE 4 #[.slice ζ B.length γ,.slice η I.length ε] 27 ?_;intro bg hg w6 hbox hb;have Y:=Aside0.mk hbox;have ij:=sGe hg;have ik:=sGe hg;have gw:=sNl X hg;have gx:=sNg X hg;replace X:=sBk X hb;replace HB:=sHb hb;clear hb hbox hg)|((with_reducible refine Qp (N:=5) rfl ?_);refine qE 5 #[.int .i64 δ,.int .i64 L,.int .i64 θ] 29 ?_;intro cp hg w7 hbox hb;have σ:=Aside0.mk hbox;have iu:=sGe hg;have iv:=sGe hg;have dm:=sNl X hg;have dr:=sNg X hg;have dt:=sNl Y hg;have du:=sNg Y hg;replace X:=sBk X hb;replace Y:=sBk Y hb;replace HB:=sHb hb;clear hb hbox hg)|((with_reducible refine Qp (N:=6) rfl ?_);refine qE 6 #[.slice none 0 0,.slice none 0 0] 27 ?_;intro a2 hg w8 hbox hb;have ν :=Aside0.mk hbox;have iy:=sGe hg;have iz:=sGe hg;have ac:=sNl X hg;have bl:=sNg X hg;have ae:=sNl Y hg;have bm:=sNg Y hg;have bh:=sNl σ hg;have bi:=sNg σ hg;replace X:=sBk X hb;replace Y:=sBk Y hb;replace σ:=sBk σ hb;replace HB:=sHb hb;clear hb hbox hg;have g5:=dr.out;have g6:=dm.out;have db:=du.out;have dc:=dt.out;have it:=bh.out;have j6:=bi.out;obtain⟨b0,b1,f9,b2,b3,fj⟩:=qD3 σ.out)|((with_reducible refine Qp (N:=8) rfl ?_);refine qE 8 #[.int .i64 0,.int .i64 0,.int .i64 0] 56 ?_;intro bb hg eb hbox hb;have μ :=Aside0.mk hbox;have j2:=sGe hg;have j3:=sGe hg;have br:=sNl X hg;have bv:=sNg X hg;have cf:=sNl Y hg;have ch:=sNg Y hg;have ci:=sNl σ hg;have ck:=sNg σ hg;have ax:=sNl ν hg;have a8:=sNg ν hg;replace X:=sBk X hb;replace Y:=sBk Y hb;replace σ:=sBk σ hb;replace ν :=sBk ν hb;replace HB:=sHb hb;clear hb hbox hg;have i1:=bv.out;have i2:=br.out;have io:=ch.out;have ip:=cf.out;have j4:=ck.out;have j5:=ci.out;have dd:=a8.out;have dh:=ax.out;obtain⟨bu,bw,d9,bz,ca,da⟩:=qD3 μ.out;obtain⟨am,ao,ct,ap,av,cw⟩:=qD3 σ.out)|((with_reducible refine Qp (N:=9) rfl ?_);refine qE 9 #[.int .i64 0,.int .i64 0] 62 ?_;intro a3 hg d0 hbox hb;have U:=Aside0.mk hbox;have gt:=sGe hg;have gv:=sGe hg;have dv:=Aside0.mk ((by rw[hg];exact Nat.ne_of_lt (Q3 (g:=a6) (o:=.cells #[.int .i64 J,.int .i64 D] 23 (0,0)) (bka X)):a6≠a3));have dw:=Aside0.mk ((by rw[hg];exact Nat.ne_of_gt (Q3 (g:=a6) (o:=.cells #[.int .i64 J,.int .i64 D] 23 (0,0)) (bka X)):a3≠a6));have dx:=Aside0.mk ((by rw[hg];exact Nat.ne_of_lt (Q3 (g:=bg) (o:=.cells #[.slice ζ B.length γ,.slice η I.length ε] 27 (0,0)) (bka Y)):bg≠a3));have dy:=Aside0.mk ((by rw[hg];exact Nat.ne_of_gt (Q3 (g:=bg) (o:=.cells #[.slice ζ B.length γ,.slice η I.length ε] 27 (0,0)) (bka Y)):a3≠bg));have dz:=Aside0.mk ((by rw[hg];exact Nat.ne_of_lt (Q3 (g:=cp) (o:=.cells #[.int .i64 δ,.int .i64 L,.int .i64 θ] 29 (0,0)) (bka σ)):cp≠a3));have e0:=Aside0.mk ((by rw[hg];exact Nat.ne_of_gt (Q3 (g:=cp) (o:=.cells #[.int .i64 δ,.int .i64 L,.int .i64 θ] 29 (0,0)) (bka σ)):a3≠cp));have bj:=Aside0.mk ((by rw[hg];exact Nat.ne_of_lt (Q3 (g:=a2) (o:=.cells #[.slice none 0 0,.slice none 0 0] 27 (0,0)) (bka ν)):a2≠a3));have ak:=Aside0.mk ((by rw[hg];exact Nat.ne_of_gt (Q3 (g:=a2) (o:=.cells #[.slice none 0 0,.slice none 0 0] 27 (0,0)) (bka ν)):a3≠a2));have b9:=Aside0.mk ((by rw[hg];exact Nat.ne_of_lt (Q3 (g:=bb) (o:=.cells #[.int .i64 L,.int .i64 0,.int .i64 (-1)] 56 (0,0)) (by refine Qw (cs:=#[.int .i64 L,.int .i64 0,.int .i64 0]) ?_ 2 _ rfl;refine Qw (cs:=#[.int .i64 L,.int .i64 0,.int .i64 0]) ?_ 1 _ rfl;refine Qw (cs:=#[.int .i64 0,.int .i64 0,.int .i64 0]) ?_ 0 _ rfl;exact μ.out)):bb≠a3));have bk:=Aside0.mk ((by rw[hg];exact Nat.ne_of_gt (Q3 (g:=bb) (o:=.cells #[.int .i64 L,.int .i64 0,.int .i64 (-1)] 56 (0,0)) (by refine Qw (cs:=#[.int .i64 L,.int .i64 0,.int .i64 0]) ?_ 2 _ rfl;refine Qw (cs:=#[.int .i64 L,.int .i64 0,.int .i64 0]) ?_ 1 _ rfl;refine Qw (cs:=#[.int .i64 0,.int .i64 0,.int .i64 0]) ?_ 0 _ rfl;exact μ.out)):a3≠bb));replace X:=sBk X hb;replace Y:=sBk Y hb;replace σ:=sBk σ hb;replace ν :=sBk ν hb;replace μ :=Aside0.mk (Qo (g:=bb) (o:=.cells #[.int .i64 L,.int .i64 0,.int .i64 (-1)] 56 (0,0)) (by refine Qw (cs:=#[.int .i64 L,.int .i64 0,.int .i64 0]) ?_ 2 _ rfl;refine Qw (cs:=#[.int .i64 L,.int .i64 0,.int .i64 0]) ?_ 1 _ rfl;refine Qw (cs:=#[.int .i64 0,.int .i64 0,.int .i64 0]) ?_ 0 _ rfl;exact μ.out) hb);replace HB:=sHb hb;clear hb hbox hg;have e5:=dw.out;have ea:=dv.out;have fa:=dy.out;have fb:=dx.out;have fc:=e0.out;have fg:=dz.out;have fn:=ak.out;have fo:=bj.out;have de:=bk.out;have df:=b9.out;obtain⟨bn,bo,cg,cj⟩:=qD2 U.out;obtain⟨cu,cx,fz,cy,cz,g0⟩:=qD3 σ.out))
 (try simp only[Act.put,qS])
 go_cut [] (fun wc=>∃ (kq:Nat) (af:Int),Aside0 (call_Press.j0 kq J D B I L af (-1)=some (r1,r2,r3))∧Aside0 (kq≤k)∧Aside0 (wc.heap[a6]?=some (.cells #[.int .i64 J,.int .i64 D] 23 (0,0)))∧Aside0 (wc.heap[bg]?=some (.cells #[(.slice ζ B.length γ),(.slice η I.length ε)] 27 (0,0)))∧Aside0 (wc.heap[cp]?=some (.cells #[.int .i64 δ,.int .i64 L,.int .i64 θ] 29 (0,0)))∧Aside0 (wc.heap[a2]?=some (.cells #[(.slice none 0 0),(.slice none 0 0)] 27 (0,0)))∧Aside0 (wc.heap[bb]?=some (.cells #[.int .i64 L,.int .i64 af,.int .i64 (-1)] 56 (0,0)))∧Aside0 (wc.heap[a3]?=some (.cells #[.int .i64 θ,.int .i64 L] 62 (0,0)))∧Aside0 (Below w.heap.size w wc))
 case first=>
  have H:=gg.out
  clear gg
  by_cases al: δ = 0
  ·rw[if_pos al] at H
   have c28b0:(δ == 0)=true:=beq_iff_eq.mpr al
   have c28b1:(δ != 0)=false:=bne_eq_false_iff_eq.mpr al
   clear al
   (first|rw[c28b0]|(simp only[Zg,Zj];rw[c28b0])|skip)
   have H':=Aside0.mk H
   clear H
   have iw:=bv.out
   have ix:=br.out
   have il:=ch.out
   have im:=cf.out
   have j8:=ck.out
   have j9:=ci.out
   have g8:=a8.out
   have g9:=ax.out
   have fe:=b9.out
   have ff:=bk.out
   obtain⟨ec,ed,g1,ee,ef,g2⟩:=qD3 μ.out
   go_wp2
   go_meet
   case rel=>exact⟨_,(1),H',⟨by first|omega|exact Nat.le_refl _⟩,⟨bka X⟩,⟨bka Y⟩,⟨bka σ⟩,⟨bka ν⟩,⟨by(with_reducible repeat first|apply Qf|apply Qb|apply Qg);refine Qw (cs:=#[.int .i64 L,.int .i64 0,.int .i64 (-1)]) ?_ 1 _ rfl;(with_reducible repeat first|apply Qf|apply Qb|apply Qg);refine Zt ?_ b9.out _;(with_reducible repeat first|apply Qf|apply Qb|apply Qg);refine Zt ?_ b9.out _;(with_reducible repeat first|apply Qf|apply Qb|apply Qg);exact μ.out⟩,⟨by(with_reducible repeat first|apply Qf|apply Qb|apply Qg);refine Zt ?_ bk.out _;(with_reducible repeat first|apply Qf|apply Qb|apply Qg);refine Qw (cs:=#[.int .i64 θ,.int .i64 0]) ?_ 1 _ rfl;(with_reducible repeat first|apply Qf|apply Qb|apply Qg);refine Qw (cs:=#[.int .i64 0,.int .i64 0]) ?_ 0 _ rfl;(with_reducible repeat first|apply Qf|apply Qb|apply Qg);exact U.out⟩,⟨bel⟩⟩
  ·rw[if_neg al] at H
   have c28b0:(δ == 0)=false:=beq_eq_false_iff_ne.mpr al
   have c28b1:(δ != 0)=true:=bne_iff_ne.mpr al
   (first|rw[c28b0]|(simp only[Zg,Zj];rw[c28b0])|skip)
   by_cases cq: δ = 1
   ·rw[if_pos cq] at H
    have c35b0:(δ == 1)=true:=beq_iff_eq.mpr cq
    have c35b1:(δ != 1)=false:=bne_eq_false_iff_eq.mpr cq
    clear cq
    have H':=Aside0.mk H
    clear H
    have e6:=bv.out
    have e8:=br.out
    have gj:=ch.out
    have gl:=cf.out
    have hj:=ck.out
    have hl:=ci.out
    have l7:=a8.out
    have l8:=ax.out
    have ey:=b9.out
    have ez:=bk.out
    obtain⟨eg,eh,g3,ei,ej,g4⟩:=qD3 μ.out
    go_wp2
    go_meet
    case rel=>exact⟨_,((-1)),H',⟨by first|omega|exact Nat.le_refl _⟩,⟨bka X⟩,⟨bka Y⟩,⟨bka σ⟩,⟨bka ν⟩,⟨by(with_reducible repeat first|apply Qf|apply Qb|apply Qg);refine Qw (cs:=#[.int .i64 L,.int .i64 0,.int .i64 (-1)]) ?_ 1 _ rfl;(with_reducible repeat first|apply Qf|apply Qb|apply Qg);refine Zt ?_ b9.out _;(with_reducible repeat first|apply Qf|apply Qb|apply Qg);refine Zt ?_ b9.out _;(with_reducible repeat first|apply Qf|apply Qb|apply Qg);exact μ.out⟩,⟨by(with_reducible repeat first|apply Qf|apply Qb|apply Qg);refine Zt ?_ bk.out _;(with_reducible repeat first|apply Qf|apply Qb|apply Qg);refine Qw (cs:=#[.int .i64 θ,.int .i64 0]) ?_ 1 _ rfl;(with_reducible repeat first|apply Qf|apply Qb|apply Qg);refine Qw (cs:=#[.int .i64 0,.int .i64 0]) ?_ 0 _ rfl;(with_reducible repeat first|apply Qf|apply Qb|apply Qg);exact U.out⟩,⟨bel⟩⟩
   ·rw[if_neg cq] at H
    have c35b0:(δ == 1)=false:=beq_eq_false_iff_ne.mpr cq
    have c35b1:(δ != 1)=true:=bne_iff_ne.mpr cq
    by_cases d1: δ = 2
    ·rw[if_pos d1] at H
     have c42b0:(δ == 2)=true:=beq_iff_eq.mpr d1
     have c42b1:(δ != 2)=false:=bne_eq_false_iff_eq.mpr d1
     clear d1
     replace H:=Option.bind_eq_some_iff.mp H
     obtain⟨τ,gi,H⟩:=H
     replace H:((call_change.f (woP_H.f (-2) 0 0 B) (withP_I.f θ L I) k J D B I τ 0 (-2) 0 0 0 θ L).bind fun bd=>(some (bd.1,bd.2.1,bd.2.2)))=some (r1,r2,r3):=H
     have ih:=Aside0.mk gi
     clear gi
     replace H:=Option.bind_eq_some_iff.mp H
     obtain⟨⟨di,el,bf⟩,d2,H⟩:=H
     replace H:(some (di,el,bf))=some (r1,r2,r3):=H
     have d3:=Aside0.mk d2
     clear d2
     simp only[Option.some.injEq,Prod.mk.injEq] at H
     obtain⟨rfl,rfl,rfl⟩:=H
     try go_wp2
     have O:Aside0 (((d0.setCell ⟨a3,0,none⟩ (.int .i64 θ)).setCell ⟨a3,1,none⟩ (.int .i64 L)).heap[a6]?=some (.cells #[.int .i64 J,.int .i64 D] 23 (0,0))):=⟨bka X⟩
     have Z:Aside0 (((d0.setCell ⟨a3,0,none⟩ (.int .i64 θ)).setCell ⟨a3,1,none⟩ (.int .i64 L)).heap[bg]?=some (.cells #[.slice ζ B.length γ,.slice η I.length ε] 27 (0,0))):=⟨bka Y⟩
     have ι :Aside0 (((d0.setCell ⟨a3,0,none⟩ (.int .i64 θ)).setCell ⟨a3,1,none⟩ (.int .i64 L)).heap[cp]?=some (.cells #[.int .i64 δ,.int .i64 L,.int .i64 θ] 29 (0,0))):=⟨bka σ⟩
     have κ :Aside0 (((d0.setCell ⟨a3,0,none⟩ (.int .i64 θ)).setCell ⟨a3,1,none⟩ (.int .i64 L)).heap[a2]?=some (.cells #[.slice none 0 0,.slice none 0 0] 27 (0,0))):=⟨bka ν⟩
     have ξ :Aside0 (((d0.setCell ⟨a3,0,none⟩ (.int .i64 θ)).setCell ⟨a3,1,none⟩ (.int .i64 L)).heap[bb]?=some (.cells #[.int .i64 L,.int .i64 0,.int .i64 (-1)] 56 (0,0))):=⟨bka μ⟩
     have ψ :Aside0 (((d0.setCell ⟨a3,0,none⟩ (.int .i64 θ)).setCell ⟨a3,1,none⟩ (.int .i64 L)).heap[a3]?=some (.cells #[.int .i64 θ,.int .i64 L] 62 (0,0))):=⟨by refine Qw (cs:=#[.int .i64 θ,.int .i64 0]) ?_ 1 _ rfl;refine Qw (cs:=#[.int .i64 0,.int .i64 0]) ?_ 0 _ rfl;exact U.out⟩
     have a1:Aside0 (Below w.heap.size w ((d0.setCell ⟨a3,0,none⟩ (.int .i64 θ)).setCell ⟨a3,1,none⟩ (.int .i64 L))):=⟨bel⟩
     (try clear X)
     (try clear Y)
     (try clear σ)
     (try clear ν)
     (try clear μ)
     (try clear U)
     (try clear HB)
     generalize((d0.setCell ⟨a3,0,none⟩ (.int .i64 θ)).setCell ⟨a3,1,none⟩ (.int .i64 L))=dq at O Z ι κ ξ ψ a1 ⊢
     have X:=O
     have Y:=Z
     have σ:= ι
     have ν := κ
     have μ := ξ
     have U:= ψ
     have HB:=a1
     clear O Z ι κ ξ ψ a1
     replace X:=Aside0.mk (Qb X.out)
     replace Y:=Aside0.mk (Qb Y.out)
     replace σ:=Aside0.mk (Qb σ.out)
     replace ν :=Aside0.mk (Qb ν.out)
     replace μ :=Aside0.mk (Qb μ.out)
     replace U:=Aside0.mk (Qb U.out)
     replace HB:=Aside0.mk (Qe HB.out)
     refine Ze (n:=19) (S:=fun w'=>w'.cell? ⟨a6,0,none⟩=some (.int .i64 J)∧w'.cell? ⟨a6,1,none⟩=some (.int .i64 D)∧w'.cell? ⟨bg,0,none⟩=some (.slice ζ B.length γ)∧w'.cell? ⟨bg,1,none⟩=some (.slice η I.length ε)∧w'.cell? ⟨a3,0,none⟩=some (.int .i64 θ)∧w'.cell? ⟨a3,1,none⟩=some (.int .i64 L)) (ds:=[]) #[false,false,false,false,false,false,false,false,false,false,false,false,false,false,false,false,false,false,false] kr rfl rfl ⟨(Qi X.out 0).trans rfl,(Qi X.out 1).trans rfl,(Qi Y.out 0).trans rfl,(Qi Y.out 1).trans rfl,(Qi U.out 0).trans rfl,(Qi U.out 1).trans rfl⟩ (fun hHeld=>?_);refine Q4 call_Press.U7 call_Press.Vb (fun HT_ HW_=>?_)
     generalize dq.drew=gs at X Y σ ν μ U HB hHeld ⊢
     refine qP 9 (some 37) (bN 19 512) HT_ ?_
     refine qT 0 (some 28) (bN 19 513) HT_ HW_ hHeld ?_
     refine qT 1 (some 29) (bN 19 515) HT_ HW_ hHeld ?_
     refine qT 2 (some 30) (bN 19 519) HT_ HW_ hHeld ?_
     refine qT 4 (some 32) (bN 19 535) HT_ HW_ hHeld ?_
     refine qT 6 (some 34) (bN 19 599) HT_ HW_ hHeld ?_
     refine qT 10 (some 38) (bN 19 1623) HT_ HW_ hHeld ?_
     refine qT 13 (some 41) (bN 19 9815) HT_ HW_ hHeld ?_
     refine Zi (i:=3) (N:=some 31) (bN 19 9823) rfl rfl (Q0 HT_.out kr) (by decide) (fun K hK=>?_)
     refine Zc Try.func29 kr rfl #[.agg #[.int .i64 J,.int .i64 D]] (by rfl) rfl rfl qM ?_
     refine(Jk J D _).mono ?_
     rintro e e3 ⟨bc,rfl,hgp,hgw,hb⟩
     have bs:=Aside0.mk hgp
     clear hgp hgw
     refine⟨_,rfl, ?_⟩
     replace X:=sBk X hb
     replace Y:=sBk Y hb
     replace σ:=sBk σ hb
     replace ν :=sBk ν hb
     replace μ :=sBk μ hb
     replace U:=sBk U hb
     replace HB:=sHb hb
     (try clear hb)
     (try clear a0)
     (try clear hk)
     (try clear hi)
     refine hK.out _ _ ⟨qc X,qc X,qc Y,qc Y,qc U,qc U⟩ (fun hHeld=>?_)
     clear hK K
     refine qN (some 31) ?_
     refine Zi (i:=5) (N:=some 33) (bN 19 9855) rfl rfl (Q0 HT_.out kr) (by decide) (fun K hK=>?_)
     refine Xu Try.func50 kr rfl #[] #[.pointer (some ⟨bc,0,none⟩)] #[.agg #[.int .i64 θ,.int .i64 L]] #[.agg #[.int .i64 θ,.int .i64 L],.pointer (some ⟨bc,0,none⟩)] rfl (by rfl) rfl rfl rfl qM ?_
     refine(Y1 J D θ L τ _ (Option.some.inj ih.out) bc bs.out).mono ?_
     rintro e gz ⟨rfl,hb⟩
     refine⟨_,rfl, ?_⟩
     replace X:=sBk X hb
     replace Y:=sBk Y hb
     replace σ:=sBk σ hb
     replace ν :=sBk ν hb
     replace μ :=sBk μ hb
     replace U:=sBk U hb
     replace HB:=sHb hb
     (try clear hb)
     (try clear a0)
     (try clear hk)
     (try clear hi)
     refine hK.out _ _ ⟨qc X,qc X,qc Y,qc Y,qc U,qc U⟩ (fun hHeld=>?_)
     clear hK K
     refine qN (some 33) ?_
     refine Zi (i:=7) (N:=some 35) (bN 19 9983) rfl rfl (Q0 HT_.out kr) (by decide) (fun K hK=>?_)
     refine Zc Try.func30 kr rfl #[.agg #[.slice ζ B.length γ,.slice η I.length ε]] (by rfl) rfl rfl qM ?_
     refine(Yl ζ η B.length I.length γ ε _).mono ?_
     rintro e e4 ⟨rfl,hb⟩
     refine⟨_,rfl, ?_⟩
     replace X:=sBk X hb
     replace Y:=sBk Y hb
     replace σ:=sBk σ hb
     replace ν :=sBk ν hb
     replace μ :=sBk μ hb
     replace U:=sBk U hb
     replace HB:=sHb hb
     (try clear hb)
     (try clear a0)
     (try clear hk)
     (try clear hi)
     refine hK.out _ _ ⟨qc X,qc X,qc Y,qc Y,qc U,qc U⟩ (fun hHeld=>?_)
     clear hK K
     refine qN (some 35) ?_
     refine qP 8 (some 36) (bN 19 10239) HT_ ?_
     refine Zi (i:=11) (N:=some 39) (bN 19 12287) rfl rfl (Q0 HT_.out kr) (by decide) (fun K hK=>?_)
     refine Zc Try.func32 kr rfl #[.agg #[.slice ζ B.length γ,.slice η I.length ε]] (by rfl) rfl rfl qM ?_
     refine(Yt ζ η B.length I.length γ ε _).mono ?_
     rintro e e7 ⟨rfl,hb⟩
     refine⟨_,rfl, ?_⟩
     replace X:=sBk X hb
     replace Y:=sBk Y hb
     replace σ:=sBk σ hb
     replace ν :=sBk ν hb
     replace μ :=sBk μ hb
     replace U:=sBk U hb
     replace HB:=sHb hb
     (try clear hb)
     (try clear a0)
     (try clear hk)
     (try clear hi)
     refine hK.out _ _ ⟨qc X,qc X,qc Y,qc Y,qc U,qc U⟩ (fun hHeld=>?_)
     clear hK K
     refine qN (some 39) ?_
     refine qP 12 (some 40) (bN 19 16383) HT_ ?_
     refine Zi (i:=14) (N:=some 42) (bN 19 32767) rfl rfl (Q0 HT_.out kr) (by decide) (fun K hK=>?_)
     refine Zc Try.func28 kr rfl #[.agg #[.int .i64 J,.int .i64 D],.agg #[.slice ζ B.length γ,.slice η I.length ε],.bool τ,.func (.func 31) #[.agg #[.slice ζ B.length γ,.func (.func 51) #[] #[]]] #[],.agg #[.int .i64 (-2),.int .i64 0,.int .i64 0],.func (.func 33) #[.agg #[.slice η I.length ε,.func (.func 57) #[] #[]]] #[],.agg #[.int .i64 θ,.int .i64 L]] (by rfl) rfl rfl qM ?_
     refine(call_change.calls _ _ k J D ζ γ B η ε I τ 0 (-2) 0 0 0 θ L di el bf _ ?side1 ?side2 ?side3 ?side4 d3.out 31 Try.f31 (.agg #[.slice ζ B.length γ,.func (.func 51) #[] #[]]) Try.func31 kr rfl (fun W t ht hb=>J3 ζ γ B _ _ _ t W (Kd.Qz (Kd.Qz ag.out (by repeat(first|(with_reducible first|exact HB.out|apply Qh|apply Qc|apply Qe)|exact HB.out|(refine Qd ?_ (Aside0.out (by assumption)))))) hb) ar.out ht) 33 Try.f33 (.agg #[.slice η I.length ε,.func (.func 57) #[] #[]]) Try.func33 kr rfl (fun W t ht hb=>Vh η ε I _ _ t W (Kd.Qz (Kd.Qz ai.out (by repeat(first|(with_reducible first|exact HB.out|apply Qh|apply Qc|apply Qe)|exact HB.out|(refine Qd ?_ (Aside0.out (by assumption)))))) hb) au.out ht)).mono ?_
     (case side1=>exact(Kd.Qz ag.out HB.out))
     (case side2=>exact ar.out)
     (case side3=>exact(Kd.Qz ai.out HB.out))
     (case side4=>exact au.out)
     rintro e fi ⟨jb,jc,rfl,ρ,a7,hb⟩
     refine⟨_,rfl, ?_⟩
     have co:=Aside0.mk (Kd.Q2 (Kd.Xx ρ (g:=bb) (o:=.cells #[.int .i64 L,.int .i64 0,.int .i64 (-1)] 56 (0,0)) μ.out) (Qj HB.out))
     have er:=Aside0.mk (Kd.Q2 (Kd.Xx a7 (g:=a3) (o:=.cells #[.int .i64 θ,.int .i64 L] 62 (0,0)) U.out) (Qj HB.out))
     replace X:=sBk X hb
     replace Y:=sBk Y hb
     replace σ:=sBk σ hb
     replace ν :=sBk ν hb
     replace μ :=sBk μ hb
     replace U:=sBk U hb
     replace HB:=sHb hb
     (try clear hb)
     (try clear a0)
     (try clear hk)
     (try clear hi)
     (try clear ρ)
     (try clear a7)
     obtain⟨d5,d7,d8⟩:=Kd.Q5 co.out
     (first|subst d8|(injection d8 with φ a9 χ;have aa:= φ.symm;have ab:= χ.symm;clear φ a9 χ;subst aa;subst ab))
     obtain⟨fk,fl,e9⟩:=Kd.Q5 er.out
     (first|subst e9|(injection e9 with φ a9 χ;have aa:= φ.symm;have ab:= χ.symm;clear φ a9 χ;subst aa;subst ab))
     refine hK.out _ _ ⟨qc X,qc X,qc Y,qc Y,qc U,qc U⟩ (fun hHeld=>?_)
     clear hK K
     refine qN (some 42) ?_
     refine qP 15 (some 43) (bN 19 65535) HT_ ?_
     refine qP 16 (some 44) (bN 19 131071) HT_ ?_
     refine Zi (i:=17) (N:=none) (bN 19 262143) rfl rfl (Q0 HT_.out kr) (by decide) (fun K hK=>?_)
     have h0:fi.cell? ⟨a2,0,none⟩=some (.slice none 0 0):=(Qi ν.out 0).trans rfl
     have gr:=Q6 ν.out 0
     have ev:=ac.out
     have ew:=ae.out
     have f4:=bh.out
     have f5:=a8.out
     have h5:=ak.out
     have f7:=bl.out
     have f8:=bm.out
     have fh:=bi.out
     have fp:=ax.out
     have h6:=bj.out
     have h4:fi.cell? ⟨a2,1,none⟩=some (.slice none 0 0):=(Qi ν.out 1).trans rfl
     have gu:=Q6 ν.out 1
     have fq:=ac.out
     have fr:=ae.out
     have ft:=bh.out
     have fu:=a8.out
     have h7:=ak.out
     have fv:=bl.out
     have fw:=bm.out
     have fx:=bi.out
     have fy:=ax.out
     have h8:=bj.out
     refine Y4 (w1:=?_) (by rfl) rfl ?_ ?_
     rotate_left
     ·go_simp
      rfl
     refine hK.out _ _ ⟨((cell_far (p:=⟨a2,_,none⟩) ac.out _).trans (((cell_far (p:=⟨a2,_,none⟩) ac.out _).trans (hHeld.1)))),((cell_far (p:=⟨a2,_,none⟩) ac.out _).trans (((cell_far (p:=⟨a2,_,none⟩) ac.out _).trans (hHeld.2.1)))),((cell_far (p:=⟨a2,_,none⟩) ae.out _).trans (((cell_far (p:=⟨a2,_,none⟩) ae.out _).trans (hHeld.2.2.1)))),((cell_far (p:=⟨a2,_,none⟩) ae.out _).trans (((cell_far (p:=⟨a2,_,none⟩) ae.out _).trans (hHeld.2.2.2.1)))),((cell_far (p:=⟨a2,_,none⟩) ak.out _).trans (((cell_far (p:=⟨a2,_,none⟩) ak.out _).trans (hHeld.2.2.2.2.1)))),((cell_far (p:=⟨a2,_,none⟩) ak.out _).trans (((cell_far (p:=⟨a2,_,none⟩) ak.out _).trans (hHeld.2.2.2.2.2))))⟩ (fun hHeld=>?_)
     clear hK K
     refine qP 18 (some 7) (bN 19 524287) HT_ ?_
     refine Zq (Zd HT_.out kr) ?_
     try go_wp2
     refine bodyPost_ret (Xm rfl _ _ a2 27 #[.slice d5 di.length d7,.slice fk el.length fl] (0,0) _ rfl (by refine Qw (cs:=#[.slice d5 di.length d7,.slice none 0 0]) ?_ 1 _ rfl;refine Qw (cs:=#[.slice none 0 0,.slice none 0 0]) ?_ 0 _ rfl;exact ν.out) Try.underlying27 rfl kr) rfl ?_
     exact⟨_,_,by first|rfl|(simp[Qy,Qx] <;> rfl)|(simp[*,Qy,Qx] <;> rfl),by(with_reducible repeat first|apply Kd.Qm|apply Kd.Ql|apply Kd.Qn);exact Kd.Qr (Kd.Qs (Kd.Qs (Kd.Qv co.out ν.out (by decide)) (fun _ hk=>hk.2) _) (fun _ hk=>hk.2) _) (fun _ hk=>trivial),by(with_reducible repeat first|apply Kd.Qm|apply Kd.Ql|apply Kd.Qn);exact Kd.Qr (Kd.Qs (Kd.Qs (Kd.Qv er.out ν.out (by decide)) (fun _ hk=>hk.2) _) (fun _ hk=>hk.2) _) (fun _ hk=>trivial),bel⟩
    ·rw[if_neg d1] at H
     have c42b0:(δ == 2)=false:=beq_eq_false_iff_ne.mpr d1
     have c42b1:(δ != 2)=true:=bne_iff_ne.mpr d1
     have H':=Aside0.mk H
     clear H
     go_wp2
     go_meet
     case rel=>exact⟨_,(0),H',⟨by first|omega|exact Nat.le_refl _⟩,⟨bka X⟩,⟨bka Y⟩,⟨bka σ⟩,⟨bka ν⟩,⟨bka μ⟩,⟨by(with_reducible repeat first|apply Qf|apply Qb|apply Qg);refine Qw (cs:=#[.int .i64 θ,.int .i64 0]) ?_ 1 _ rfl;(with_reducible repeat first|apply Qf|apply Qb|apply Qg);refine Qw (cs:=#[.int .i64 0,.int .i64 0]) ?_ 0 _ rfl;(with_reducible repeat first|apply Qf|apply Qb|apply Qg);exact U.out⟩,⟨bel⟩⟩
 case rest=>
  clear gg
  try clear c1
  try clear c2
  try clear p2
  try clear c3
  try clear c4
  try clear c5
  try clear c9
  try clear c10
  try clear cb
  try clear az
  try clear a4
  try clear an
  try clear a5
  try clear cv
  try clear jr
  try clear dn
  try clear d4
  try clear aj
  try clear al
  try clear c28b0
  try clear c28b1
  try clear ce
  try clear ek
  try clear cd
  try clear g7
  try clear lf
  try clear cq
  try clear c35b0
  try clear c35b1
  try clear en
  try clear eo
  try clear jl
  try clear mg
  try clear lc
  try clear d1
  try clear c42b0
  try clear c42b1
  try clear ep
  try clear b0
  try clear b1
  try clear f9
  try clear bu
  try clear bw
  try clear d9
  try clear am
  try clear ao
  try clear ct
  try clear bn
  try clear bo
  try clear cu
  try clear cx
  try clear fz
  try clear ec
  try clear ed
  try clear g1
  try clear eg
  try clear eh
  try clear g3
  try clear b2
  try clear b3
  try clear fj
  try clear bz
  try clear ca
  try clear da
  try clear ap
  try clear av
  try clear cw
  try clear cg
  try clear cj
  try clear cy
  try clear cz
  try clear g0
  try clear ee
  try clear ef
  try clear g2
  try clear ei
  try clear ej
  try clear g4
  obtain⟨kq,af,HA,jh,X,Y,σ,ν,μ,U,HB⟩:=hcut
  cases kq with
  |zero=>exact absurd HA.out (by simp[call_Press.j0])
  |succ gy=>
   have H:=HA.out
   clear HA
   simp only[call_Press.j0] at H
   replace H:=Option.bind_eq_some_iff.mp H
   obtain⟨ah,gk,H⟩:=H
   replace H:((call_change.f (withP_H.f L af (-1) B) (woP_I.f (-2) 0 I) gy J D B I ah 0 L af (-1) 0 (-2) 0).bind fun bp=>(some (bp.1,bp.2.1,bp.2.2)))=some (r1,r2,r3):=H
   have ii:=Aside0.mk gk
   clear gk
   replace H:=Option.bind_eq_some_iff.mp H
   obtain⟨⟨dj,em,gm⟩,fm,H⟩:=H
   replace H:(some (dj,em,gm))=some (r1,r2,r3):=H
   have ir:=Aside0.mk fm
   clear fm
   simp only[Option.some.injEq,Prod.mk.injEq] at H
   obtain⟨rfl,rfl,rfl⟩:=H
   try go_wp2
   replace X:=Aside0.mk (Qb X.out)
   replace Y:=Aside0.mk (Qb Y.out)
   replace σ:=Aside0.mk (Qb σ.out)
   replace ν :=Aside0.mk (Qb ν.out)
   replace μ :=Aside0.mk (Qb μ.out)
   replace U:=Aside0.mk (Qb U.out)
   replace HB:=Aside0.mk (Qe HB.out)
   refine Ze (n:=19) (S:=fun w'=>w'.cell? ⟨a6,0,none⟩=some (.int .i64 J)∧w'.cell? ⟨a6,1,none⟩=some (.int .i64 D)∧w'.cell? ⟨bg,0,none⟩=some (.slice ζ B.length γ)∧w'.cell? ⟨bg,1,none⟩=some (.slice η I.length ε)∧w'.cell? ⟨bb,0,none⟩=some (.int .i64 L)∧w'.cell? ⟨bb,1,none⟩=some (.int .i64 af)∧w'.cell? ⟨bb,2,none⟩=some (.int .i64 (-1))) (ds:=[]) #[false,false,false,false,false,false,false,false,false,false,false,false,false,false,false,false,false,false,false] kr rfl rfl ⟨(Qi X.out 0).trans rfl,(Qi X.out 1).trans rfl,(Qi Y.out 0).trans rfl,(Qi Y.out 1).trans rfl,(Qi μ.out 0).trans rfl,(Qi μ.out 1).trans rfl,(Qi μ.out 2).trans rfl⟩ (fun hHeld=>?_);refine Q4 call_Press.tab10 call_Press.Eo (fun HT_ HW_=>?_)
   generalize wc.drew=iq at X Y σ ν μ U HB hHeld ⊢
   refine qP 13 (some 58) (bN 19 8192) HT_ ?_
   refine qT 0 (some 45) (bN 19 8193) HT_ HW_ hHeld ?_
   refine qT 1 (some 46) (bN 19 8195) HT_ HW_ hHeld ?_
   refine qT 2 (some 47) (bN 19 8199) HT_ HW_ hHeld ?_
   refine qT 4 (some 49) (bN 19 8215) HT_ HW_ hHeld ?_
   refine qT 6 (some 51) (bN 19 8279) HT_ HW_ hHeld ?_
   refine qT 9 (some 54) (bN 19 8791) HT_ HW_ hHeld ?_
   refine qT 10 (some 55) (bN 19 9815) HT_ HW_ hHeld ?_
   refine Zi (i:=3) (N:=some 48) (bN 19 9823) rfl rfl (Q0 HT_.out kr) (by decide) (fun K hK=>?_)
   refine Zc Try.func34 kr rfl #[.agg #[.int .i64 J,.int .i64 D]] (by rfl) rfl rfl qM ?_
   refine(Jl J D _).mono ?_
   rintro e ga ⟨be,rfl,hgp,hgw,hb⟩
   have bq:=Aside0.mk hgp
   clear hgp hgw
   refine⟨_,rfl, ?_⟩
   replace X:=sBk X hb
   replace Y:=sBk Y hb
   replace σ:=sBk σ hb
   replace ν :=sBk ν hb
   replace μ :=sBk μ hb
   replace U:=sBk U hb
   replace HB:=sHb hb
   (try clear hb)
   (try clear a0)
   (try clear hk)
   (try clear hi)
   refine hK.out _ _ ⟨qc X,qc X,qc Y,qc Y,qc μ,qc μ,qc μ⟩ (fun hHeld=>?_)
   clear hK K
   refine qN (some 48) ?_
   refine Zi (i:=5) (N:=some 50) (bN 19 9855) rfl rfl (Q0 HT_.out kr) (by decide) (fun K hK=>?_)
   refine Xu Try.func61 kr rfl #[] #[.pointer (some ⟨be,0,none⟩)] #[.agg #[.int .i64 L,.int .i64 af,.int .i64 (-1)]] #[.agg #[.int .i64 L,.int .i64 af,.int .i64 (-1)],.pointer (some ⟨be,0,none⟩)] rfl (by rfl) rfl rfl rfl qM ?_
   refine(Kn J D L af (-1) ah _ (Option.some.inj ii.out) be bq.out).mono ?_
   rintro e gh ⟨rfl,hb⟩
   refine⟨_,rfl, ?_⟩
   replace X:=sBk X hb
   replace Y:=sBk Y hb
   replace σ:=sBk σ hb
   replace ν :=sBk ν hb
   replace μ :=sBk μ hb
   replace U:=sBk U hb
   replace HB:=sHb hb
   (try clear hb)
   (try clear a0)
   (try clear hk)
   (try clear hi)
   refine hK.out _ _ ⟨qc X,qc X,qc Y,qc Y,qc μ,qc μ,qc μ⟩ (fun hHeld=>?_)
   clear hK K
   refine qN (some 50) ?_
   refine Zi (i:=7) (N:=some 52) (bN 19 9983) rfl rfl (Q0 HT_.out kr) (by decide) (fun K hK=>?_)
   refine Zc Try.func30 kr rfl #[.agg #[.slice ζ B.length γ,.slice η I.length ε]] (by rfl) rfl rfl qM ?_
   refine(Yl ζ η B.length I.length γ ε _).mono ?_
   rintro e gb ⟨rfl,hb⟩
   refine⟨_,rfl, ?_⟩
   replace X:=sBk X hb
   replace Y:=sBk Y hb
   replace σ:=sBk σ hb
   replace ν :=sBk ν hb
   replace μ :=sBk μ hb
   replace U:=sBk U hb
   replace HB:=sHb hb
   (try clear hb)
   (try clear a0)
   (try clear hk)
   (try clear hi)
   refine hK.out _ _ ⟨qc X,qc X,qc Y,qc Y,qc μ,qc μ,qc μ⟩ (fun hHeld=>?_)
   clear hK K
   refine qN (some 52) ?_
   refine qP 8 (some 53) (bN 19 10239) HT_ ?_
   refine Zi (i:=11) (N:=some 56) (bN 19 12287) rfl rfl (Q0 HT_.out kr) (by decide) (fun K hK=>?_)
   refine Zc Try.func32 kr rfl #[.agg #[.slice ζ B.length γ,.slice η I.length ε]] (by rfl) rfl rfl qM ?_
   refine(Yt ζ η B.length I.length γ ε _).mono ?_
   rintro e ge ⟨rfl,hb⟩
   refine⟨_,rfl, ?_⟩
   replace X:=sBk X hb
   replace Y:=sBk Y hb
   replace σ:=sBk σ hb
   replace ν :=sBk ν hb
   replace μ :=sBk μ hb
   replace U:=sBk U hb
   replace HB:=sHb hb
   (try clear hb)
   (try clear a0)
   (try clear hk)
   (try clear hi)
   refine hK.out _ _ ⟨qc X,qc X,qc Y,qc Y,qc μ,qc μ,qc μ⟩ (fun hHeld=>?_)
   clear hK K
   refine qN (some 56) ?_
   refine qP 12 (some 57) (bN 19 16383) HT_ ?_
   refine Zi (i:=14) (N:=some 59) (bN 19 32767) rfl rfl (Q0 HT_.out kr) (by decide) (fun K hK=>?_)
   refine Zc Try.func28 kr rfl #[.agg #[.int .i64 J,.int .i64 D],.agg #[.slice ζ B.length γ,.slice η I.length ε],.bool ah,.func (.func 35) #[.agg #[.slice ζ B.length γ,.func (.func 51) #[] #[]]] #[],.agg #[.int .i64 L,.int .i64 af,.int .i64 (-1)],.func (.func 36) #[.agg #[.slice η I.length ε,.func (.func 57) #[] #[]]] #[],.agg #[.int .i64 (-2),.int .i64 0]] (by rfl) rfl rfl qM ?_
   refine(call_change.calls _ _ gy J D ζ γ B η ε I ah 0 L af (-1) 0 (-2) 0 dj em gm _ ?side1 ?side2 ?side3 ?side4 ir.out 35 Try.f35 (.agg #[.slice ζ B.length γ,.func (.func 51) #[] #[]]) Try.func35 kr rfl (fun W t ht hb=>Vi ζ γ B _ _ _ t W (Kd.Qz (Kd.Qz ag.out (by repeat(first|(with_reducible first|exact HB.out|apply Qh|apply Qc|apply Qe)|exact HB.out|(refine Qd ?_ (Aside0.out (by assumption)))))) hb) ar.out ht) 36 Try.f36 (.agg #[.slice η I.length ε,.func (.func 57) #[] #[]]) Try.func36 kr rfl (fun W t ht hb=>Jg η ε I _ _ t W (Kd.Qz (Kd.Qz ai.out (by repeat(first|(with_reducible first|exact HB.out|apply Qh|apply Qc|apply Qe)|exact HB.out|(refine Qd ?_ (Aside0.out (by assumption)))))) hb) au.out ht)).mono ?_
   (case side1=>exact(Kd.Qz ag.out HB.out))
   (case side2=>exact ar.out)
   (case side3=>exact(Kd.Qz ai.out HB.out))
   (case side4=>exact au.out)
   rintro e dp ⟨jd,je,rfl,ρ,a7,hb⟩
   refine⟨_,rfl, ?_⟩
   have et:=Aside0.mk (Kd.Q2 (Kd.Xx ρ (g:=bb) (o:=.cells #[.int .i64 L,.int .i64 af,.int .i64 (-1)] 56 (0,0)) μ.out) (Qj HB.out))
   have eu:=Aside0.mk (Kd.Q2 (Kd.Xx a7 (g:=a3) (o:=.cells #[.int .i64 θ,.int .i64 L] 62 (0,0)) U.out) (Qj HB.out))
   replace X:=sBk X hb
   replace Y:=sBk Y hb
   replace σ:=sBk σ hb
   replace ν :=sBk ν hb
   replace μ :=sBk μ hb
   replace U:=sBk U hb
   replace HB:=sHb hb
   (try clear hb)
   (try clear a0)
   (try clear hk)
   (try clear hi)
   (try clear ρ)
   (try clear a7)
   obtain⟨gn,gp,gq⟩:=Kd.Q5 et.out
   (first|subst gq|(injection gq with φ a9 χ;have aa:= φ.symm;have ab:= χ.symm;clear φ a9 χ;subst aa;subst ab))
   obtain⟨cm,cn,dl⟩:=Kd.Q5 eu.out
   (first|subst dl|(injection dl with φ a9 χ;have aa:= φ.symm;have ab:= χ.symm;clear φ a9 χ;subst aa;subst ab))
   refine hK.out _ _ ⟨qc X,qc X,qc Y,qc Y,qc μ,qc μ,qc μ⟩ (fun hHeld=>?_)
   clear hK K
   refine qN (some 59) ?_
   refine qP 15 (some 60) (bN 19 65535) HT_ ?_
   refine qP 16 (some 61) (bN 19 131071) HT_ ?_
   refine Zi (i:=17) (N:=none) (bN 19 262143) rfl rfl (Q0 HT_.out kr) (by decide) (fun K hK=>?_)
   have jf:dp.cell? ⟨a2,0,none⟩=some (.slice none 0 0):=(Qi ν.out 0).trans rfl
   have j7:=Q6 ν.out 0
   have h9:=ac.out
   have ha:=ae.out
   have he:=bh.out
   have hh:=a8.out
   have ho:=ak.out
   have hu:=bl.out
   have hx:=bm.out
   have hy:=bi.out
   have i0:=ax.out
   have i3:=bj.out
   have jg:dp.cell? ⟨a2,1,none⟩=some (.slice none 0 0):=(Qi ν.out 1).trans rfl
   have ja:=Q6 ν.out 1
   have i4:=ac.out
   have i5:=ae.out
   have i6:=bh.out
   have i7:=a8.out
   have i9:=ak.out
   have ia:=bl.out
   have ib:=bm.out
   have ic:=bi.out
   have ie:=ax.out
   have ig:=bj.out
   refine Y4 (w1:=?_) (by rfl) rfl ?_ ?_
   rotate_left
   ·go_simp
    rfl
   refine hK.out _ _ ⟨((cell_far (p:=⟨a2,_,none⟩) ac.out _).trans (((cell_far (p:=⟨a2,_,none⟩) ac.out _).trans (hHeld.1)))),((cell_far (p:=⟨a2,_,none⟩) ac.out _).trans (((cell_far (p:=⟨a2,_,none⟩) ac.out _).trans (hHeld.2.1)))),((cell_far (p:=⟨a2,_,none⟩) ae.out _).trans (((cell_far (p:=⟨a2,_,none⟩) ae.out _).trans (hHeld.2.2.1)))),((cell_far (p:=⟨a2,_,none⟩) ae.out _).trans (((cell_far (p:=⟨a2,_,none⟩) ae.out _).trans (hHeld.2.2.2.1)))),((cell_far (p:=⟨a2,_,none⟩) a8.out _).trans (((cell_far (p:=⟨a2,_,none⟩) a8.out _).trans (hHeld.2.2.2.2.1)))),((cell_far (p:=⟨a2,_,none⟩) a8.out _).trans (((cell_far (p:=⟨a2,_,none⟩) a8.out _).trans (hHeld.2.2.2.2.2.1)))),((cell_far (p:=⟨a2,_,none⟩) a8.out _).trans (((cell_far (p:=⟨a2,_,none⟩) a8.out _).trans (hHeld.2.2.2.2.2.2))))⟩ (fun hHeld=>?_)
   clear hK K
   refine qP 18 (some 7) (bN 19 524287) HT_ ?_
   refine Zq (Zd HT_.out kr) ?_
   try go_wp2
   refine bodyPost_ret (Xm rfl _ _ a2 27 #[.slice gn dj.length gp,.slice cm em.length cn] (0,0) _ rfl (by refine Qw (cs:=#[.slice gn dj.length gp,.slice none 0 0]) ?_ 1 _ rfl;refine Qw (cs:=#[.slice none 0 0,.slice none 0 0]) ?_ 0 _ rfl;exact ν.out) Try.underlying27 rfl kr) rfl ?_
   exact⟨_,_,by first|rfl|(simp[Qy,Qx] <;> rfl)|(simp[*,Qy,Qx] <;> rfl),by(with_reducible repeat first|apply Kd.Qm|apply Kd.Ql|apply Kd.Qn);exact Kd.Qr (Kd.Qs (Kd.Qs (Kd.Qv et.out ν.out (by decide)) (fun _ hk=>hk.2) _) (fun _ hk=>hk.2) _) (fun _ hk=>trivial),by(with_reducible repeat first|apply Kd.Qm|apply Kd.Ql|apply Kd.Qn);exact Kd.Qr (Kd.Qs (Kd.Qs (Kd.Qv eu.out ν.out (by decide)) (fun _ hk=>hk.2) _) (fun _ hk=>hk.2) _) (fun _ hk=>trivial),bel⟩
end Go.Proofs.Ytjehhhlhalkieaa.C
namespace Go.Proofs.Ytjehhhlhalkieaa.Call
open Go.RowKit Go.Proofs.YtjehhhlhalkieaaW.PrintWords Go.Proofs.YtjehhhlhalkieaaW.PrintLast Go.Proofs.YtjehhhlhalkieaaW.PrintMore Go.Proofs.Ytjehhhlhalkieaa.C
set_option linter.unusedVariables false
set_option linter.unusedSimpArgs false
abbrev Hall:=S56
abbrev Ins:=S62
def i64 (x:Int):Prop:= -9223372036854775808≤x∧x≤9223372036854775807
theorem Vn (a lo hi:Int):call_within.f a lo hi=some (decide (lo≤a∧a≤hi)):=by
  unfold call_within.f
  by_cases h:lo≤a <;> simp[h]
def okB (F C:Int) (H:List Hall) (I:List Ins):Bool:=decide (2≤F∧F≤64)&&(decide (1≤C∧C≤8)&&(Zs (fun x=>Xq F C x.f0 x.f1 x.f2) ltH none H&&Zs (fun x=>Yw F C x.f0 x.f1) ltI none I))
theorem Jq {n:Nat} {C:Int} (h:n<1000000000) (hC:i64 C):small n C=true:=decide_eq_true ⟨h,hC.1,hC.2⟩
theorem U3 (k:Nat) (F C:Int) (H:List Hall) (I:List Ins) (hH:H.length<900000000) (hI:I.length<900000000) (hC:i64 C):call_Check.f (k+1) F C H I=some (if okB F C H I=true then 0 else 190):=by
  unfold call_Check.f rightP_H.f rightP_I.f okB
  rw[Vn,Vn,if_pos (Jq (by omega) hC),if_pos (Jq (by omega) hC)]
  simp only[Option.bind_some]
  cases decide (2≤F∧F≤64) <;> cases decide (1≤C∧C≤8) <;> cases Zs (fun x:Hall=>Xq F C x.f0 x.f1 x.f2) ltH none H <;> cases Zs (fun x:Ins=>Yw F C x.f0 x.f1) ltI none I <;> simp[call_Check.j0]
theorem Vu (U:Option (List Hall)) (V:Option (List Ins)) (k:Nat) (F C:Int) (H:List Hall) (I:List Ins) (is:Bool) (X B D J a5 L O:Int) (hH:H.length<900000000) (hI:I.length<900000000) (hC:i64 C):
    call_change.f U V (k+1) F C H I is X B D J a5 L O=if okB F C H I=true then (if is=true then U.bind fun a=>V.bind fun b=>some (a,b,0) else some ([],[],191)) else some ([],[],190):=by
  unfold call_change.f
  rw[U3 k F C H I hH hI hC]
  cases okB F C H I <;> simp
theorem Yq {F C:Int} {H:List Hall} {I:List Ins}:okB F C H I=true↔((2≤F∧F≤64)∧(1≤C∧C≤8)∧((∀ x ∈ H,Xq F C x.f0 x.f1 x.f2=true)∧H.Pairwise (fun x y=>ltH x y=true))∧((∀ x ∈ I,Yw F C x.f0 x.f1=true)∧I.Pairwise (fun x y=>ltI x y=true))):=by
  unfold okB
  simp only[Bool.and_eq_true,decide_eq_true_eq]
  rw[Ji,J5]
theorem Wx (x:Int) (h:1≤x∧x≤64):wrap64 (x-1)=x-1:=by unfold wrap64;omega
theorem K4 {F C:Int} {D J X:Int} (hF:2≤F∧F≤64) (hC:1≤C∧C≤8):Xq F C D J X=true↔((J=1∨J = -1)∧(0≤D∧D≤F-1)∧(0≤D+J∧D+J≤F-1)∧(-1≤X∧X≤C-1)):=by
  unfold Xq
  rw[decide_eq_true_eq,Wx F (by omega),Wx C (by omega)]
  constructor
  · rintro⟨h1,O,L,Y⟩
    rw[show wrap64 (D+J)=D+J from by unfold wrap64;omega] at L
    exact⟨h1,O,L,Y⟩
  · rintro⟨h1,O,L,Y⟩
    rw[show wrap64 (D+J)=D+J from by unfold wrap64;omega]
    exact⟨h1,O,L,Y⟩
theorem W4 {F C:Int} {D J:Int} (hF:2≤F∧F≤64) (hC:1≤C∧C≤8):Yw F C D J=true↔((0≤D∧D≤C-1)∧(0≤J∧J≤F-1)):=by
  unfold Yw
  rw[decide_eq_true_eq,Wx F (by omega),Wx C (by omega)]
theorem Uo {F C:Int} {H:List Hall} {I:List Ins} (h:okB F C H I=true):Zs (fun _=>true) ltH none H=true:=(Ji _ _).2 ⟨fun _ _=>rfl,(Yq.1 h).2.2.1.2⟩
theorem Un {F C:Int} {H:List Hall} {I:List Ins} (h:okB F C H I=true):Zs (fun _=>true) ltI none I=true:=(J5 _ _).2 ⟨fun _ _=>rfl,(Yq.1 h).2.2.2.2⟩
theorem L9 {F C:Int} {H:List Hall} {I:List Ins} (h:okB F C H I=true) (D J X:Int) (hx:D<0):woH D J X H=H:=by
  obtain⟨hF,hC,⟨h1,_⟩,_⟩:=Yq.1 h
  unfold woH
  rw[List.filter_eq_self]
  intro y hy
  have:=(K4 hF hC).1 (h1 y hy)
  have hne:¬ Zz D J y.f0 y.f1=0:=by rw[Xt];omega
  simp[hne]
theorem L8 {F C:Int} {H:List Hall} {I:List Ins} (h:okB F C H I=true) (D J:Int) (hx:D<0):woI D J I=I:=by
  obtain⟨hF,hC,_,h1,_⟩:=Yq.1 h
  unfold woI
  rw[List.filter_eq_self]
  intro y hy
  have:=(W4 hF hC).1 (h1 y hy)
  have hne:¬ Zz D J y.f0 y.f1=0:=by rw[Xt];omega
  simp[hne]
def J8 (kind:Int):Int:=if kind=0 then 1 else if kind=1 then -1 else 0
def Jw (F C:Int) (H:List Hall) (I:List Ins) (kind fl car:Int):List Hall×List Ins×Int:=
  if okB F C H I=true then
    if kind=2 then (if Yw F C car fl=true then (H,Yz ⟨car,fl⟩ I,0) else ([],[],191))
    else (if Xq F C fl (J8 kind) (-1)=true then (Ys ⟨fl,J8 kind,-1⟩ H,I,0) else ([],[],191))
  else ([],[],190)
theorem Km (k:Nat) (F C:Int) (H:List Hall) (I:List Ins) (fl d:Int) (hH:H.length<900000000) (hI:I.length<900000000) (hC:i64 C) (hd:i64 d):
    call_Press.j0 (k+2) F C H I fl d (-1)=some (if okB F C H I=true then (if Xq F C fl d (-1)=true then (Ys ⟨fl,d,-1⟩ H,I,0) else ([],[],191)) else ([],[],190)):=by
  unfold call_Press.j0 hallP.f
  simp only[Option.bind_some]
  rw[Vu _ _ k F C H I _ _ _ _ _ _ _ _ hH hI hC]
  cases hok:okB F C H I
  · simp
  · cases Xq F C fl d (-1)
    · simp
    · simp only[if_true]
      unfold withP_H.f woP_I.f
      rw[if_pos ⟨Jq (by omega) hd,Uo hok⟩,if_pos (Jq (by omega) (by unfold i64;omega)),L8 hok _ _ (by omega)]
      rfl
theorem Mi (k:Nat) (F C:Int) (H:List Hall) (I:List Ins) (kind fl car:Int) (hH:H.length<900000000) (hI:I.length<900000000) (hC:i64 C) (hf:i64 fl):
    call_Press.f (k+2) F C H I kind fl car=some (Jw F C H I kind fl car):=by
  unfold call_Press.f Jw J8
  by_cases U:kind=0
  · rw[if_pos U,Km k F C H I fl 1 hH hI hC (by unfold i64;omega)]
    subst U
    simp
  · rw[if_neg U]
    by_cases h1:kind=1
    · rw[if_pos h1,Km k F C H I fl (-1) hH hI hC (by unfold i64;omega)]
      subst h1
      simp
    · rw[if_neg h1]
      by_cases O:kind=2
      · rw[if_pos O]
        subst O
        unfold insP.f
        simp only[Option.bind_some]
        rw[Vu _ _ (k+1) F C H I _ _ _ _ _ _ _ _ hH hI hC]
        cases hok:okB F C H I
        · simp
        · cases Yw F C car fl
          · simp
          · simp only[if_true]
            unfold withP_I.f woP_H.f
            rw[if_pos (Jq (by omega) (by unfold i64;omega)),if_pos ⟨Jq (by omega) hf,Un hok⟩,L9 hok _ _ _ (by omega)]
            rfl
      · rw[if_neg O,Km k F C H I fl 0 hH hI hC (by unfold i64;omega)]
        simp[U,h1,O]
theorem Ei (H:List Hall) (I:List Ins) (hH:H.length<900000000) (hI:I.length<900000000):newellaw19_Own.f H I=some (H,I):=by
  unfold newellaw19_Own.f
  simp only[Option.bind_some,List.length_nil,Nat.zero_add,List.nil_append]
  rw[if_pos (by omega),if_pos (by omega)]
end Go.Proofs.Ytjehhhlhalkieaa.Call
namespace Go.Proofs.Ytjehhhlhalkieaa.C
open Go.RowKit Go.Proofs.YtjehhhlhalkieaaW.PrintWords Go.Proofs.YtjehhhlhalkieaaW.PrintLast Go.Proofs.YtjehhhlhalkieaaW.PrintMore
attribute [local go_sem] Z4 Z2 Xe Xd Zx Zw Z3 Z1
set_option linter.unusedVariables false
set_option linter.unusedSimpArgs false
def newellaw19_awake.f (k:Nat):Option (Bool):=(call_Press.f k 4 2 ([]:List (S56)) ([]:List (S62)) 0 2 0).bind fun a6=>((call_Press.f k 4 2 a6.1 a6.2.1 1 2 0).bind fun σ=>((call_Give.f k 4 2 σ.1 σ.2.1 2 1 1).bind fun χ =>((call_View.f k 4 2 χ.1 χ.2.1 1).bind fun ai=>((call_Serve.f k 4 2 χ.1 χ.2.1 0 2 1).bind fun aa=>(if a6.2.2=0 then (if σ.2.2=0 then ((newelref19_Same.f k σ.1 σ.2.1 (([(⟨2,(-1),(-1)⟩:S56),(⟨2,1,(-1)⟩:S56)]:List (S56))) ([]:List (S62))).bind fun ag=>(if ag=true then (if χ.2.2=0 then (if (ai.2.1.length:Int)=1 then (if ai.2.2.2=0 then (if (aa.1.length:Int)=1 then (if aa.2.2=0 then ((call_Same.f k a6.1 a6.2.1 a6.1 a6.2.1).bind fun a9=>(if a9=true then ((call_Same.f k a6.1 a6.2.1 σ.1 σ.2.1).bind fun a4=>(if a4=true then (none) else ((call_Check.f k 4 2 σ.1 σ.2.1).bind fun φ =>(some (φ == 0))))) else (none))) else (none)) else (none)) else (none)) else (none)) else (none)) else (none))) else (none)) else (none))))))
theorem newellaw19_awake.mono:∀ k,LeO (newellaw19_awake.f k) (newellaw19_awake.f (k+1)):=by
 intro  k
 unfold newellaw19_awake.f
 repeat' first
   |(with_reducible exact call_Check.mono _ _ _ _ _)
   |(with_reducible exact call_Give.mono _ _ _ _ _ _ _ _)
   |(with_reducible exact call_Press.mono _ _ _ _ _ _ _ _)
   |(with_reducible exact call_Same.mono _ _ _ _ _)
   |(with_reducible exact call_Serve.mono _ _ _ _ _ _ _ _)
   |(with_reducible exact call_View.mono _ _ _ _ _ _)
   |(with_reducible exact newelref19_Same.mono _ _ _ _ _)
   |(with_reducible exact LeO.refl _)
   |(with_reducible exact LeO.none _)
   |(with_reducible refine LeO.ite ?_ ?_)
   |(with_reducible refine LeO.bind ?_ (fun _=>?_))
   |exact call_Check.mono _ _ _ _ _
   |exact call_Give.mono _ _ _ _ _ _ _ _
   |exact call_Press.mono _ _ _ _ _ _ _ _
   |exact call_Same.mono _ _ _ _ _
   |exact call_Serve.mono _ _ _ _ _ _ _ _
   |exact call_View.mono _ _ _ _ _ _
   |exact newelref19_Same.mono _ _ _ _ _
   |exact LeO.none _
   |refine LeO.ite ?_ ?_
   |refine LeO.bind ?_ (fun _=>?_)
set_option maxHeartbeats 8000000 in
set_option maxRecDepth 100000 in
theorem newellaw19_awake.calls (k:Nat)  (r:Bool) (w:World) (h:newellaw19_awake.f k=some r):
  Calls Try.prog 10 #[] w fun e w'=>e = .returned (.bool r)∧Below w.heap.size w w':=by
 have dk:=Try.underlying23
 have d6:=Try.underlying27
 have gf:=Try.underlying29
 have ay:=Try.underlying56
 have ju:=Try.underlying47
 have gh:=Try.underlying43
 have HB:=Aside0.mk (Below.refl w.heap.size w)
 have H:((call_Press.f k 4 2 ([]:List (S56)) ([]:List (S62)) 0 2 0).bind fun a6=>((call_Press.f k 4 2 a6.1 a6.2.1 1 2 0).bind fun σ=>((call_Give.f k 4 2 σ.1 σ.2.1 2 1 1).bind fun χ =>((call_View.f k 4 2 χ.1 χ.2.1 1).bind fun ai=>((call_Serve.f k 4 2 χ.1 χ.2.1 0 2 1).bind fun aa=>(if a6.2.2=0 then (if σ.2.2=0 then ((newelref19_Same.f k σ.1 σ.2.1 (([(⟨2,(-1),(-1)⟩:S56),(⟨2,1,(-1)⟩:S56)]:List (S56))) ([]:List (S62))).bind fun ag=>(if ag=true then (if χ.2.2=0 then (if (ai.2.1.length:Int)=1 then (if ai.2.2.2=0 then (if (aa.1.length:Int)=1 then (if aa.2.2=0 then ((call_Same.f k a6.1 a6.2.1 a6.1 a6.2.1).bind fun a9=>(if a9=true then ((call_Same.f k a6.1 a6.2.1 σ.1 σ.2.1).bind fun a4=>(if a4=true then (none) else ((call_Check.f k 4 2 σ.1 σ.2.1).bind fun φ =>(some (φ == 0))))) else (none))) else (none)) else (none)) else (none)) else (none)) else (none)) else (none))) else (none)) else (none)))))))=some r:=h
 clear h
 replace H:=Option.bind_eq_some_iff.mp H
 obtain⟨⟨I,ε,b4⟩,f9,H⟩:=H
 replace H:((call_Press.f k 4 2 I ε 1 2 0).bind fun σ=>((call_Give.f k 4 2 σ.1 σ.2.1 2 1 1).bind fun χ =>((call_View.f k 4 2 χ.1 χ.2.1 1).bind fun ai=>((call_Serve.f k 4 2 χ.1 χ.2.1 0 2 1).bind fun aa=>(if b4=0 then (if σ.2.2=0 then ((newelref19_Same.f k σ.1 σ.2.1 (([(⟨2,(-1),(-1)⟩:S56),(⟨2,1,(-1)⟩:S56)]:List (S56))) ([]:List (S62))).bind fun ag=>(if ag=true then (if χ.2.2=0 then (if (ai.2.1.length:Int)=1 then (if ai.2.2.2=0 then (if (aa.1.length:Int)=1 then (if aa.2.2=0 then ((call_Same.f k I ε I ε).bind fun a9=>(if a9=true then ((call_Same.f k I ε σ.1 σ.2.1).bind fun a4=>(if a4=true then (none) else ((call_Check.f k 4 2 σ.1 σ.2.1).bind fun φ =>(some (φ == 0))))) else (none))) else (none)) else (none)) else (none)) else (none)) else (none)) else (none))) else (none)) else (none))))))=some r:=H
 have A1:=Aside0.mk f9
 clear f9
 replace H:=Option.bind_eq_some_iff.mp H
 obtain⟨⟨τ,η,au⟩,ge,H⟩:=H
 replace H:((call_Give.f k 4 2 τ η 2 1 1).bind fun χ =>((call_View.f k 4 2 χ.1 χ.2.1 1).bind fun ai=>((call_Serve.f k 4 2 χ.1 χ.2.1 0 2 1).bind fun aa=>(if b4=0 then (if au=0 then ((newelref19_Same.f k τ η (([(⟨2,(-1),(-1)⟩:S56),(⟨2,1,(-1)⟩:S56)]:List (S56))) ([]:List (S62))).bind fun ag=>(if ag=true then (if χ.2.2=0 then (if (ai.2.1.length:Int)=1 then (if ai.2.2.2=0 then (if (aa.1.length:Int)=1 then (if aa.2.2=0 then ((call_Same.f k I ε I ε).bind fun a9=>(if a9=true then ((call_Same.f k I ε τ η).bind fun a4=>(if a4=true then (none) else ((call_Check.f k 4 2 τ η).bind fun φ =>(some (φ == 0))))) else (none))) else (none)) else (none)) else (none)) else (none)) else (none)) else (none))) else (none)) else (none)))))=some r:=H
 have A2:=Aside0.mk ge
 clear ge
 replace H:=Option.bind_eq_some_iff.mp H
 obtain⟨⟨ah,aj,ar⟩,ac,H⟩:=H
 replace H:((call_View.f k 4 2 ah aj 1).bind fun ai=>((call_Serve.f k 4 2 ah aj 0 2 1).bind fun aa=>(if b4=0 then (if au=0 then ((newelref19_Same.f k τ η (([(⟨2,(-1),(-1)⟩:S56),(⟨2,1,(-1)⟩:S56)]:List (S56))) ([]:List (S62))).bind fun ag=>(if ag=true then (if ar=0 then (if (ai.2.1.length:Int)=1 then (if ai.2.2.2=0 then (if (aa.1.length:Int)=1 then (if aa.2.2=0 then ((call_Same.f k I ε I ε).bind fun a9=>(if a9=true then ((call_Same.f k I ε τ η).bind fun a4=>(if a4=true then (none) else ((call_Check.f k 4 2 τ η).bind fun φ =>(some (φ == 0))))) else (none))) else (none)) else (none)) else (none)) else (none)) else (none)) else (none))) else (none)) else (none))))=some r:=H
 have A3:=Aside0.mk ac
 clear ac
 replace H:=Option.bind_eq_some_iff.mp H
 obtain⟨⟨b7,ak,bu,b5⟩,bv,H⟩:=H
 replace H:((call_Serve.f k 4 2 ah aj 0 2 1).bind fun aa=>(if b4=0 then (if au=0 then ((newelref19_Same.f k τ η (([(⟨2,(-1),(-1)⟩:S56),(⟨2,1,(-1)⟩:S56)]:List (S56))) ([]:List (S62))).bind fun ag=>(if ag=true then (if ar=0 then (if (ak.length:Int)=1 then (if b5=0 then (if (aa.1.length:Int)=1 then (if aa.2.2=0 then ((call_Same.f k I ε I ε).bind fun a9=>(if a9=true then ((call_Same.f k I ε τ η).bind fun a4=>(if a4=true then (none) else ((call_Check.f k 4 2 τ η).bind fun φ =>(some (φ == 0))))) else (none))) else (none)) else (none)) else (none)) else (none)) else (none)) else (none))) else (none)) else (none)))=some r:=H
 have A4:=Aside0.mk bv
 clear bv
 replace H:=Option.bind_eq_some_iff.mp H
 obtain⟨⟨am,bw,bb⟩,bz,H⟩:=H
 replace H:(if b4=0 then (if au=0 then ((newelref19_Same.f k τ η (([(⟨2,(-1),(-1)⟩:S56),(⟨2,1,(-1)⟩:S56)]:List (S56))) ([]:List (S62))).bind fun ag=>(if ag=true then (if ar=0 then (if (ak.length:Int)=1 then (if b5=0 then (if (am.length:Int)=1 then (if bb=0 then ((call_Same.f k I ε I ε).bind fun a9=>(if a9=true then ((call_Same.f k I ε τ η).bind fun a4=>(if a4=true then (none) else ((call_Check.f k 4 2 τ η).bind fun φ =>(some (φ == 0))))) else (none))) else (none)) else (none)) else (none)) else (none)) else (none)) else (none))) else (none)) else (none))=some r:=H
 have A5:=Aside0.mk bz
 clear bz
 by_cases c6:b4=0
 ·rw[if_pos c6] at H
  have c6b0:(b4==0)=true:=beq_iff_eq.mpr c6
  have c6b1:(b4 != 0)=false:=bne_eq_false_iff_eq.mpr c6
  clear c6
  by_cases c7:au=0
  ·rw[if_pos c7] at H
   have c7b0:(au==0)=true:=beq_iff_eq.mpr c7
   have c7b1:(au != 0)=false:=bne_eq_false_iff_eq.mpr c7
   clear c7
   obtain⟨fh,bl⟩:∃ y_:List (S56),y_=(([(⟨2,(-1),(-1)⟩:S56),(⟨2,1,(-1)⟩:S56)]:List (S56))):=⟨_,rfl⟩
   replace H:((newelref19_Same.f k τ η fh ([]:List (S62))).bind fun ag=>(if ag=true then (if ar=0 then (if (ak.length:Int)=1 then (if b5=0 then (if (am.length:Int)=1 then (if bb=0 then ((call_Same.f k I ε I ε).bind fun a9=>(if a9=true then ((call_Same.f k I ε τ η).bind fun a4=>(if a4=true then (none) else ((call_Check.f k 4 2 τ η).bind fun φ =>(some (φ == 0))))) else (none))) else (none)) else (none)) else (none)) else (none)) else (none)) else (none)))=some r:=by first|(rw[bl];with_reducible exact H)|(have δ :=(Option.bind_some _ _).symm.trans H;rw[bl];with_reducible exact δ)|(have δ :=(Option.bind_some _ _).symm.trans H;with_reducible exact δ)|with_reducible exact H|(rw[bl];exact H)|exact H
   have ej:=Aside0.mk bl
   clear bl
   replace H:=Option.bind_eq_some_iff.mp H
   obtain⟨ag,e8,H⟩:=H
   replace H:(if ag=true then (if ar=0 then (if (ak.length:Int)=1 then (if b5=0 then (if (am.length:Int)=1 then (if bb=0 then ((call_Same.f k I ε I ε).bind fun a9=>(if a9=true then ((call_Same.f k I ε τ η).bind fun a4=>(if a4=true then (none) else ((call_Check.f k 4 2 τ η).bind fun φ =>(some (φ == 0))))) else (none))) else (none)) else (none)) else (none)) else (none)) else (none)) else (none))=some r:=H
   have A8:=Aside0.mk e8
   clear e8
   by_cases c9:ag=true
   ·subst c9
    have H1:(if ar=0 then (if (ak.length:Int)=1 then (if b5=0 then (if (am.length:Int)=1 then (if bb=0 then ((call_Same.f k I ε I ε).bind fun a9=>(if a9=true then ((call_Same.f k I ε τ η).bind fun a4=>(if a4=true then (none) else ((call_Check.f k 4 2 τ η).bind fun φ =>(some (φ == 0))))) else (none))) else (none)) else (none)) else (none)) else (none)) else (none))=some r:=by rw[if_pos rfl] at H;exact H
    clear H
    have H:=H1
    clear H1
    by_cases c10:ar=0
    ·rw[if_pos c10] at H
     have c10b0:(ar==0)=true:=beq_iff_eq.mpr c10
     have c10b1:(ar != 0)=false:=bne_eq_false_iff_eq.mpr c10
     clear c10
     by_cases cb:(ak.length:Int)=1
     ·rw[if_pos cb] at H
      have c11b0:((ak.length:Int)==1)=true:=beq_iff_eq.mpr cb
      have c11b1:((ak.length:Int) != 1)=false:=bne_eq_false_iff_eq.mpr cb
      clear cb
      by_cases ci:b5=0
      ·rw[if_pos ci] at H
       have c12b0:(b5==0)=true:=beq_iff_eq.mpr ci
       have c12b1:(b5 != 0)=false:=bne_eq_false_iff_eq.mpr ci
       clear ci
       by_cases ba:(am.length:Int)=1
       ·rw[if_pos ba] at H
        have c13b0:((am.length:Int)==1)=true:=beq_iff_eq.mpr ba
        have c13b1:((am.length:Int) != 1)=false:=bne_eq_false_iff_eq.mpr ba
        clear ba
        by_cases az:bb=0
        ·rw[if_pos az] at H
         have c14b0:(bb==0)=true:=beq_iff_eq.mpr az
         have c14b1:(bb != 0)=false:=bne_eq_false_iff_eq.mpr az
         clear az
         replace H:=Option.bind_eq_some_iff.mp H
         obtain⟨a9,g4,H⟩:=H
         replace H:(if a9=true then ((call_Same.f k I ε τ η).bind fun a4=>(if a4=true then (none) else ((call_Check.f k 4 2 τ η).bind fun φ =>(some (φ == 0))))) else (none))=some r:=H
         have im:=Aside0.mk g4
         clear g4
         by_cases an:a9=true
         ·subst an
          have H1:((call_Same.f k I ε τ η).bind fun a4=>(if a4=true then (none) else ((call_Check.f k 4 2 τ η).bind fun φ =>(some (φ == 0)))))=some r:=by rw[if_pos rfl] at H;exact H
          clear H
          have H:=H1
          clear H1
          replace H:=Option.bind_eq_some_iff.mp H
          obtain⟨a4,e7,H⟩:=H
          replace H:(if a4=true then (none) else ((call_Check.f k 4 2 τ η).bind fun φ =>(some (φ == 0))))=some r:=H
          have gu:=Aside0.mk e7
          clear e7
          by_cases cw:a4=true
          ·subst cw
           have H1:(none)=some r:=by rw[if_pos rfl] at H;exact H
           clear H
           have H:=H1
           clear H1
           exact absurd H (by simp)
          ·replace cw:=Bool.eq_false_iff.mpr cw
           subst cw
           have H1:((call_Check.f k 4 2 τ η).bind fun φ =>(some (φ == 0)))=some r:=by rw[if_neg (show ¬ (false=true) by decide)] at H;exact H
           clear H
           have H:=H1
           clear H1
           replace H:=Option.bind_eq_some_iff.mp H
           obtain⟨φ,fj,H⟩:=H
           replace H:(some (φ == 0))=some r:=H
           have ix:=Aside0.mk fj
           clear fj
           obtain rfl:=Option.some.inj H
           go_enter Try.func10,Try.ntmps10
           go_wp2_with (first|((with_reducible refine Qp (N:=1) rfl ?_);(try(refine Xa (by rfl) ?_;dsimp only));refine qE 1 #[.int .i64 0,.int .i64 0] 23 ?_;intro bm hg d0 hbox hb;have B:=Aside0.mk hbox;have j2:=sGe hg;have j3:=sGe hg;replace HB:=sHb hb;clear hb hbox hg;obtain⟨co,cp,cq,cr⟩:=qD2 B.out)|((with_reducible refine Q1 (f:=11) rfl ?_);refine Zp (some 17) rfl rfl Try.func11 kr rfl #[.agg #[.int .i64 4,.int .i64 2],.agg #[.slice none 0 0,.slice none 0 0],.agg #[.int .i64 0,.int .i64 2,.int .i64 0]] rfl qM ?_;(refine(call_Press.calls k 4 2 _ _ ([]:List (S56)) _ _ ([]:List (S62)) 0 2 0 I ε b4 _ ?side1 ?side2 ?side3 ?side4 A1.out).mono ?_);(case side1=>exact Kd.Gr _ _);(case side2=>exact Nat.le_refl _);(case side3=>exact Kd.Gr _ _);(case side4=>exact Nat.le_refl _);rintro e dr ⟨je,jf,rfl,ρ,a7,hb⟩;refine⟨_,rfl, ?_⟩;have J:=Aside0.mk (Kd.Q2 ρ (Qj bel));have L:=Aside0.mk (Kd.Q2 a7 (Qj bel));replace B:=Aside0.mk (Qo (g:=bm) (o:=.cells #[.int .i64 4,.int .i64 2] 23 (0,0)) (by(with_reducible repeat first|apply Qf|apply Qb|apply Qg);refine Qw (cs:=#[.int .i64 4,.int .i64 0]) ?_ 1 _ rfl;(with_reducible repeat first|apply Qf|apply Qb|apply Qg);refine Qw (cs:=#[.int .i64 0,.int .i64 0]) ?_ 0 _ rfl;(with_reducible repeat first|apply Qf|apply Qb|apply Qg);exact B.out) hb);replace HB:=sHb hb;(try clear hb);(try clear a0);(try clear hk);(try clear hi);(try clear ρ);(try clear a7))|((with_reducible refine Qp (N:=2) rfl ?_);(try(refine Xa (by rfl) ?_;dsimp only));refine qE 2 #[.slice none 0 0,.slice none 0 0] 27 ?_;intro a3 hg dv hbox hb;have U:=Aside0.mk hbox;have gt:=sGe hg;have gv:=sGe hg;have d3:=sNl B hg;have d4:=sNg B hg;replace J:=sRb J hb;replace L:=sRb L hb;replace B:=sBk B hb;replace HB:=sHb hb;clear hb hbox hg;obtain⟨av,ao,gl⟩:=Kd.Q5 J.out;subst gl;have de:=d4.out;have df:=d3.out;obtain⟨bn,bo,cg,cj⟩:=qD2 U.out;obtain⟨bd,bc,i3⟩:=Kd.Q5 L.out;subst i3;obtain⟨cx,cy,cz,d1⟩:=qD2 B.out)|((with_reducible refine Q1 (f:=11) rfl ?_);refine Zp (some 24) rfl rfl Try.func11 kr rfl #[.agg #[.int .i64 4,.int .i64 2],.agg #[.slice av I.length ao,.slice bd ε.length bc],.agg #[.int .i64 1,.int .i64 2,.int .i64 0]] rfl qM ?_;(with_reducible refine(call_Press.calls k 4 2 _ _ I _ _ ε 1 2 0 τ η au _ ?side1 ?side2 ?side3 ?side4 A2.out).mono ?_);(case side1=>refine(Kd.Qq (e:=56) (base:=w.heap.size) (ok:=fun k_=>True) (n:=I.length) (c:=ao) ?_).2.2;exact(by(with_reducible repeat first|apply Kd.Qm|apply Kd.Ql|apply Kd.Qn);exact(Kd.Qr (Kd.Qs (Kd.Qs (Kd.Qv J.out U.out (by decide)) (fun _ hk=>hk.2) _) (fun _ hk=>hk.2) _) (fun _ h_=>h_.1))));(case side2=>exact(Kd.Qq J.out).2.1);(case side3=>refine(Kd.Qq (e:=62) (base:=w.heap.size) (ok:=fun k_=>True) (n:= ε.length) (c:=bc) ?_).2.2;exact(by(with_reducible repeat first|apply Kd.Qm|apply Kd.Ql|apply Kd.Qn);exact(Kd.Qr (Kd.Qs (Kd.Qs (Kd.Qv L.out U.out (by decide)) (fun _ hk=>hk.2) _) (fun _ hk=>hk.2) _) (fun _ h_=>h_.1))));(case side4=>exact(Kd.Qq L.out).2.1);rintro e db ⟨jg,jh,rfl,ρ,a7,hb⟩;refine⟨_,rfl, ?_⟩;have X:=Aside0.mk (Kd.Q2 (Kd.Zr ρ (Kd.Z8 (by(with_reducible repeat first|apply Kd.Qm|apply Kd.Ql|apply Kd.Qn);exact(Kd.Qr (Kd.Qs (Kd.Qs (Kd.Qv J.out U.out (by decide)) (fun _ hk=>hk.2) _) (fun _ hk=>hk.2) _) (fun _ h_=>h_.1))))) (Qj bel));have Y:=Aside0.mk (Kd.Q2 (Kd.Zr a7 (Kd.Z8 (by(with_reducible repeat first|apply Kd.Qm|apply Kd.Ql|apply Kd.Qn);exact(Kd.Qr (Kd.Qs (Kd.Qs (Kd.Qv L.out U.out (by decide)) (fun _ hk=>hk.2) _) (fun _ hk=>hk.2) _) (fun _ h_=>h_.1))))) (Qj bel));replace J:=Aside0.mk (Kd.Zb (by(with_reducible repeat first|apply Kd.Qm|apply Kd.Ql|apply Kd.Qn);exact(Kd.Qr (Kd.Qs (Kd.Qs (Kd.Qv J.out U.out (by decide)) (fun _ hk=>hk.2) _) (fun _ hk=>hk.2) _) (fun _ h_=>h_.1))) (Kd.Zf ρ) hb);replace L:=Aside0.mk (Kd.Zb (by(with_reducible repeat first|apply Kd.Qm|apply Kd.Ql|apply Kd.Qn);exact(Kd.Qr (Kd.Qs (Kd.Qs (Kd.Qv L.out U.out (by decide)) (fun _ hk=>hk.2) _) (fun _ hk=>hk.2) _) (fun _ h_=>h_.1))) (Kd.Zf a7) hb);replace B:=sBk B hb;replace U:=Aside0.mk (Qo (g:=a3) (o:=.cells #[.slice av I.length ao,.slice bd ε.length bc] 27 (0,0)) (by(with_reducible repeat first|apply Qf|apply Qb|apply Qg);refine Qw (cs:=#[.slice av I.length ao,.slice none 0 0]) ?_ 1 _ rfl;(with_reducible repeat first|apply Qf|apply Qb|apply Qg);refine Qw (cs:=#[.slice none 0 0,.slice none 0 0]) ?_ 0 _ rfl;(with_reducible repeat first|apply Qf|apply Qb|apply Qg);exact U.out) hb);replace HB:=sHb hb;(try clear hb);(try clear a0);(try clear hk);(try clear hi);(try clear ρ);(try clear a7))|((with_reducible refine Qp (N:=4) rfl ?_);(try(refine Xa (by rfl) ?_;dsimp only));refine qE 4 #[.slice none 0 0,.slice none 0 0] 27 ?_;intro bp hg ew hbox hb;have D:=Aside0.mk hbox;have j4:=sGe hg;have j5:=sGe hg;have d5:=sNl B hg;have da:=sNg B hg;have dc:=sNl U hg;have dd:=sNg U hg;replace J:=sRb J hb;replace L:=sRb L hb;replace X:=sRb X hb;replace Y:=sRb Y hb;replace B:=sBk B hb;replace U:=sBk U hb;replace HB:=sHb hb;clear hb hbox hg;obtain⟨b3,b0,d2⟩:=Kd.Q5 X.out;subst d2;have g8:=da.out;have g9:=d5.out;have fe:=dd.out;have ff:=dc.out;obtain⟨ec,ed,ee,ef⟩:=qD2 D.out;obtain⟨ct,ce,g7⟩:=Kd.Q5 Y.out;subst g7;obtain⟨en,fb,fi,fw⟩:=qD2 B.out)|((with_reducible refine Q1 (f:=24) rfl ?_);refine Zp (some 31) rfl rfl Try.func24 kr rfl #[.agg #[.int .i64 4,.int .i64 2],.agg #[.slice b3 τ.length b0,.slice ct η.length ce],.agg #[.int .i64 2,.int .i64 1,.int .i64 1]] rfl qM ?_;(with_reducible refine(call_Give.calls k 4 2 _ _ τ _ _ η 2 1 1 ah aj ar _ ?side1 ?side2 ?side3 ?side4 A3.out).mono ?_);(case side1=>refine(Kd.Qq (e:=56) (base:=w.heap.size) (ok:=fun k_=>(True∧some k_≠(.slice av I.length ao:Value).ownBlock)) (n:= τ.length) (c:=b0) ?_).2.2;exact(by(with_reducible repeat first|apply Kd.Qm|apply Kd.Ql|apply Kd.Qn);exact(Kd.Qr (Kd.Qs (Kd.Qs (Kd.Qv X.out D.out (by decide)) (fun _ hk=>hk.2) _) (fun _ hk=>hk.2) _) (fun _ h_=>h_.1))));(case side2=>exact(Kd.Qq X.out).2.1);(case side3=>refine(Kd.Qq (e:=62) (base:=w.heap.size) (ok:=fun k_=>(True∧some k_≠(.slice bd ε.length bc:Value).ownBlock)) (n:= η.length) (c:=ce) ?_).2.2;exact(by(with_reducible repeat first|apply Kd.Qm|apply Kd.Ql|apply Kd.Qn);exact(Kd.Qr (Kd.Qs (Kd.Qs (Kd.Qv Y.out D.out (by decide)) (fun _ hk=>hk.2) _) (fun _ hk=>hk.2) _) (fun _ h_=>h_.1))));(case side4=>exact(Kd.Qq Y.out).2.1);rintro e gq ⟨ji,jj,rfl,ρ,a7,hb⟩;refine⟨_,rfl, ?_⟩;have θ :=Aside0.mk (Kd.Q2 (Kd.Zr (Kd.Zr ρ (Kd.Z8 (by(with_reducible repeat first|apply Kd.Qm|apply Kd.Ql|apply Kd.Qn);exact(Kd.Qr (Kd.Qs (Kd.Qs (Kd.Qv J.out D.out (by decide)) (fun _ hk=>hk.2) _) (fun _ hk=>hk.2) _) (fun _ h_=>h_.1))))) (Kd.Z8 (by(with_reducible repeat first|apply Kd.Qm|apply Kd.Ql|apply Kd.Qn);exact(Kd.Qr (Kd.Qs (Kd.Qs (Kd.Qv X.out D.out (by decide)) (fun _ hk=>hk.2) _) (fun _ hk=>hk.2) _) (fun _ h_=>h_.1))))) (Qj bel));have ν :=Aside0.mk (Kd.Q2 (Kd.Zr (Kd.Zr a7 (Kd.Z8 (by(with_reducible repeat first|apply Kd.Qm|apply Kd.Ql|apply Kd.Qn);exact(Kd.Qr (Kd.Qs (Kd.Qs (Kd.Qv L.out D.out (by decide)) (fun _ hk=>hk.2) _) (fun _ hk=>hk.2) _) (fun _ h_=>h_.1))))) (Kd.Z8 (by(with_reducible repeat first|apply Kd.Qm|apply Kd.Ql|apply Kd.Qn);exact(Kd.Qr (Kd.Qs (Kd.Qs (Kd.Qv Y.out D.out (by decide)) (fun _ hk=>hk.2) _) (fun _ hk=>hk.2) _) (fun _ h_=>h_.1))))) (Qj bel));replace J:=Aside0.mk (Kd.Zb (by(with_reducible repeat first|apply Kd.Qm|apply Kd.Ql|apply Kd.Qn);exact(Kd.Qr (Kd.Qs (Kd.Qs (Kd.Qv J.out D.out (by decide)) (fun _ hk=>hk.2) _) (fun _ hk=>hk.2) _) (fun _ h_=>h_.1))) (Kd.Zf ρ) hb);replace L:=Aside0.mk (Kd.Zb (by(with_reducible repeat first|apply Kd.Qm|apply Kd.Ql|apply Kd.Qn);exact(Kd.Qr (Kd.Qs (Kd.Qs (Kd.Qv L.out D.out (by decide)) (fun _ hk=>hk.2) _) (fun _ hk=>hk.2) _) (fun _ h_=>h_.1))) (Kd.Zf a7) hb);replace X:=Aside0.mk (Kd.Zb (by(with_reducible repeat first|apply Kd.Qm|apply Kd.Ql|apply Kd.Qn);exact(Kd.Qr (Kd.Qs (Kd.Qs (Kd.Qv X.out D.out (by decide)) (fun _ hk=>hk.2) _) (fun _ hk=>hk.2) _) (fun _ h_=>h_.1))) (Kd.Zf ρ) hb);replace Y:=Aside0.mk (Kd.Zb (by(with_reducible repeat first|apply Kd.Qm|apply Kd.Ql|apply Kd.Qn);exact(Kd.Qr (Kd.Qs (Kd.Qs (Kd.Qv Y.out D.out (by decide)) (fun _ hk=>hk.2) _) (fun _ hk=>hk.2) _) (fun _ h_=>h_.1))) (Kd.Zf a7) hb);replace B:=sBk B hb;replace U:=sBk U hb;replace D:=Aside0.mk (Qo (g:=bp) (o:=.cells #[.slice b3 τ.length b0,.slice ct η.length ce] 27 (0,0)) (by(with_reducible repeat first|apply Qf|apply Qb|apply Qg);refine Qw (cs:=#[.slice b3 τ.length b0,.slice none 0 0]) ?_ 1 _ rfl;(with_reducible repeat first|apply Qf|apply Qb|apply Qg);refine Qw (cs:=#[.slice none 0 0,.slice none 0 0]) ?_ 0 _ rfl;(with_reducible repeat first|apply Qf|apply Qb|apply Qg);exact D.out) hb);replace HB:=sHb hb;(try clear hb);(try clear a0);(try clear hk);(try clear hi);(try clear ρ);(try clear a7))|((with_reducible refine Qp (N:=6) rfl ?_);(try(refine Xa (by rfl) ?_;dsimp only));refine qE 6 #[.slice none 0 0,.slice none 0 0] 27 ?_;intro bq hg d9 hbox hb;have ζ :=Aside0.mk hbox;have j6:=sGe hg;have j7:=sGe hg;have dh:=sNl B hg;have di:=sNg B hg;have dj:=sNl U hg;have dm:=sNg U hg;have dn:=sNl D hg;have dp:=sNg D hg;replace J:=sRb J hb;replace L:=sRb L hb;replace X:=sRb X hb;replace Y:=sRb Y hb;replace θ :=sRb θ hb;replace ν :=sRb ν hb;replace B:=sBk B hb;replace U:=sBk U hb;replace D:=sBk D hb;replace HB:=sHb hb;clear hb hbox hg;obtain⟨bh,b2,gr⟩:=Kd.Q5 θ.out;subst gr;have ey:=di.out;have ez:=dh.out;have hl:=dm.out;have ho:=dj.out;have hu:=dp.out;have hx:=dn.out;obtain⟨f4,f5,f7,f8⟩:=qD2 ζ.out;obtain⟨bi,bg,ih⟩:=Kd.Q5 ν.out;subst ih;obtain⟨g0,g1,g2,g3⟩:=qD2 B.out)|((with_reducible refine Q1 (f:=19) rfl ?_);refine Zp (some 37) rfl rfl Try.func19 kr rfl #[.agg #[.int .i64 4,.int .i64 2],.agg #[.slice bh ah.length b2,.slice bi aj.length bg],.int .i64 1] rfl qM ?_;(with_reducible refine(call_View.calls k 4 2 _ _ ah _ _ aj 1 b7 ak bu b5 _ ?side1 ?side2 ?side3 ?side4 A4.out).mono ?_);(case side1=>refine(Kd.Qq (e:=56) (base:=w.heap.size) (ok:=fun k_=>((True∧some k_≠(.slice av I.length ao:Value).ownBlock)∧some k_≠(.slice b3 τ.length b0:Value).ownBlock)) (n:=ah.length) (c:=b2) ?_).2.2;exact(by(with_reducible repeat first|apply Kd.Qm|apply Kd.Ql|apply Kd.Qn);exact(Kd.Qr (Kd.Qs (Kd.Qs (Kd.Qv θ.out ζ.out (by decide)) (fun _ hk=>hk.2) _) (fun _ hk=>hk.2) _) (fun _ h_=>h_.1))));(case side2=>exact(Kd.Qq θ.out).2.1);(case side3=>refine(Kd.Qq (e:=62) (base:=w.heap.size) (ok:=fun k_=>((True∧some k_≠(.slice bd ε.length bc:Value).ownBlock)∧some k_≠(.slice ct η.length ce:Value).ownBlock)) (n:=aj.length) (c:=bg) ?_).2.2;exact(by(with_reducible repeat first|apply Kd.Qm|apply Kd.Ql|apply Kd.Qn);exact(Kd.Qr (Kd.Qs (Kd.Qs (Kd.Qv ν.out ζ.out (by decide)) (fun _ hk=>hk.2) _) (fun _ hk=>hk.2) _) (fun _ h_=>h_.1))));(case side4=>exact(Kd.Qq ν.out).2.1);rintro e gs ⟨gk,jk,jl,rfl,ρ,a7,cv,hb⟩;refine⟨_,rfl, ?_⟩;have a5:=Aside0.mk (Kd.Q2 ρ (Qj bel));have ω :=Aside0.mk (Kd.Q2 a7 (Qj bel));have a2:=Aside0.mk (Kd.Q2 cv (Qj bel));replace J:=Aside0.mk (Kd.Qu (by(with_reducible repeat first|apply Kd.Qm|apply Kd.Ql|apply Kd.Qn);exact(Kd.Qr (Kd.Qs (Kd.Qs (Kd.Qv J.out ζ.out (by decide)) (fun _ hk=>hk.2) _) (fun _ hk=>hk.2) _) (fun _ h_=>h_.1))) hb);replace L:=Aside0.mk (Kd.Qu (by(with_reducible repeat first|apply Kd.Qm|apply Kd.Ql|apply Kd.Qn);exact(Kd.Qr (Kd.Qs (Kd.Qs (Kd.Qv L.out ζ.out (by decide)) (fun _ hk=>hk.2) _) (fun _ hk=>hk.2) _) (fun _ h_=>h_.1))) hb);replace X:=Aside0.mk (Kd.Qu (by(with_reducible repeat first|apply Kd.Qm|apply Kd.Ql|apply Kd.Qn);exact(Kd.Qr (Kd.Qs (Kd.Qs (Kd.Qv X.out ζ.out (by decide)) (fun _ hk=>hk.2) _) (fun _ hk=>hk.2) _) (fun _ h_=>h_.1))) hb);replace Y:=Aside0.mk (Kd.Qu (by(with_reducible repeat first|apply Kd.Qm|apply Kd.Ql|apply Kd.Qn);exact(Kd.Qr (Kd.Qs (Kd.Qs (Kd.Qv Y.out ζ.out (by decide)) (fun _ hk=>hk.2) _) (fun _ hk=>hk.2) _) (fun _ h_=>h_.1))) hb);replace θ :=Aside0.mk (Kd.Qu (by(with_reducible repeat first|apply Kd.Qm|apply Kd.Ql|apply Kd.Qn);exact(Kd.Qr (Kd.Qs (Kd.Qs (Kd.Qv θ.out ζ.out (by decide)) (fun _ hk=>hk.2) _) (fun _ hk=>hk.2) _) (fun _ h_=>h_.1))) hb);replace ν :=Aside0.mk (Kd.Qu (by(with_reducible repeat first|apply Kd.Qm|apply Kd.Ql|apply Kd.Qn);exact(Kd.Qr (Kd.Qs (Kd.Qs (Kd.Qv ν.out ζ.out (by decide)) (fun _ hk=>hk.2) _) (fun _ hk=>hk.2) _) (fun _ h_=>h_.1))) hb);replace B:=sBk B hb;replace U:=sBk U hb;replace D:=sBk D hb;replace ζ :=Aside0.mk (Qo (g:=bq) (o:=.cells #[.slice bh ah.length b2,.slice bi aj.length bg] 27 (0,0)) (by(with_reducible repeat first|apply Qf|apply Qb|apply Qg);refine Qw (cs:=#[.slice bh ah.length b2,.slice none 0 0]) ?_ 1 _ rfl;(with_reducible repeat first|apply Qf|apply Qb|apply Qg);refine Qw (cs:=#[.slice none 0 0,.slice none 0 0]) ?_ 0 _ rfl;(with_reducible repeat first|apply Qf|apply Qb|apply Qg);exact ζ.out) hb);replace HB:=sHb hb;(try clear hb);(try clear a0);(try clear hk);(try clear hi);(try clear ρ);(try clear a7);(try clear cv))|((with_reducible refine Qp (N:=8) rfl ?_);(try(refine Xa (by rfl) ?_;dsimp only));refine qE 8 #[.slice none 0 0,.slice none 0 0,.slice none 0 0] 47 ?_;intro br hg gz hbox hb;have γ:=Aside0.mk hbox;have j8:=sGe hg;have j9:=sGe hg;have dq:=sNl B hg;have dt:=sNg B hg;have du:=sNl U hg;have dw:=sNg U hg;have dx:=sNl D hg;have dy:=sNg D hg;have dz:=sNl ζ hg;have e0:=sNg ζ hg;replace J:=sRb J hb;replace L:=sRb L hb;replace X:=sRb X hb;replace Y:=sRb Y hb;replace θ :=sRb θ hb;replace ν :=sRb ν hb;replace a5:=sRb a5 hb;replace ω :=sRb ω hb;replace a2:=sRb a2 hb;replace B:=sBk B hb;replace U:=sBk U hb;replace D:=sBk D hb;replace ζ :=sBk ζ hb;replace HB:=sHb hb;clear hb hbox hg;obtain⟨bj,bk,gw⟩:=Kd.Q5 a5.out;subst gw;have jc:=dt.out;have jd:=dq.out;have gm:=dw.out;have gn:=du.out;have gp:=dy.out;have h4:=dx.out;have g6:=e0.out;have gj:=dz.out;obtain⟨el,em,h7,eo,ep,h8⟩:=qD3 γ.out;obtain⟨ca,cd,gx⟩:=Kd.Q5 ω.out;subst gx;obtain⟨cf,ch,gy⟩:=Kd.Q5 a2.out;subst gy;obtain⟨h9,ha,he,hh⟩:=qD2 B.out;obtain⟨hj,i1,i2,i5⟩:=qD2 ζ.out)|((with_reducible refine Q1 (f:=18) rfl ?_);refine Zp (some 44) rfl rfl Try.func18 kr rfl #[.agg #[.int .i64 4,.int .i64 2],.agg #[.slice bh ah.length b2,.slice bi aj.length bg],.agg #[.int .i64 0,.int .i64 2,.int .i64 1]] rfl qM ?_;(with_reducible refine(call_Serve.calls k 4 2 _ _ ah _ _ aj 0 2 1 am bw bb _ ?side1 ?side2 ?side3 ?side4 A5.out).mono ?_);(case side1=>refine(Kd.Qq (e:=56) (base:=w.heap.size) (ok:=fun k_=>((True∧some k_≠(.slice av I.length ao:Value).ownBlock)∧some k_≠(.slice b3 τ.length b0:Value).ownBlock)) (n:=ah.length) (c:=b2) ?_).2.2;exact(by(with_reducible repeat first|apply Kd.Qm|apply Kd.Ql|apply Kd.Qn);exact(Kd.Qr (Kd.Qs (Kd.Qs (Kd.Qs (Kd.Qv θ.out γ.out (by decide)) (fun _ hk=>hk.2) _) (fun _ hk=>hk.2) _) (fun _ hk=>hk.2) _) (fun _ h_=>h_.1))));(case side2=>exact(Kd.Qq θ.out).2.1);(case side3=>refine(Kd.Qq (e:=62) (base:=w.heap.size) (ok:=fun k_=>((True∧some k_≠(.slice bd ε.length bc:Value).ownBlock)∧some k_≠(.slice ct η.length ce:Value).ownBlock)) (n:=aj.length) (c:=bg) ?_).2.2;exact(by(with_reducible repeat first|apply Kd.Qm|apply Kd.Ql|apply Kd.Qn);exact(Kd.Qr (Kd.Qs (Kd.Qs (Kd.Qs (Kd.Qv ν.out γ.out (by decide)) (fun _ hk=>hk.2) _) (fun _ hk=>hk.2) _) (fun _ hk=>hk.2) _) (fun _ h_=>h_.1))));(case side4=>exact(Kd.Qq ν.out).2.1);rintro e jp ⟨jm,jn,rfl,ρ,a7,hb⟩;refine⟨_,rfl, ?_⟩;have a8:=Aside0.mk (Kd.Q2 (Kd.Zr (Kd.Zr (Kd.Zr ρ (Kd.Z8 (by(with_reducible repeat first|apply Kd.Qm|apply Kd.Ql|apply Kd.Qn);exact(Kd.Qr (Kd.Qs (Kd.Qs (Kd.Qs (Kd.Qv J.out γ.out (by decide)) (fun _ hk=>hk.2) _) (fun _ hk=>hk.2) _) (fun _ hk=>hk.2) _) (fun _ h_=>h_.1))))) (Kd.Z8 (by(with_reducible repeat first|apply Kd.Qm|apply Kd.Ql|apply Kd.Qn);exact(Kd.Qr (Kd.Qs (Kd.Qs (Kd.Qs (Kd.Qv X.out γ.out (by decide)) (fun _ hk=>hk.2) _) (fun _ hk=>hk.2) _) (fun _ hk=>hk.2) _) (fun _ h_=>h_.1))))) (Kd.Z8 (by(with_reducible repeat first|apply Kd.Qm|apply Kd.Ql|apply Kd.Qn);exact(Kd.Qr (Kd.Qs (Kd.Qs (Kd.Qs (Kd.Qv θ.out γ.out (by decide)) (fun _ hk=>hk.2) _) (fun _ hk=>hk.2) _) (fun _ hk=>hk.2) _) (fun _ h_=>h_.1))))) (Qj bel));have ab:=Aside0.mk (Kd.Q2 (Kd.Zr (Kd.Zr (Kd.Zr a7 (Kd.Z8 (by(with_reducible repeat first|apply Kd.Qm|apply Kd.Ql|apply Kd.Qn);exact(Kd.Qr (Kd.Qs (Kd.Qs (Kd.Qs (Kd.Qv L.out γ.out (by decide)) (fun _ hk=>hk.2) _) (fun _ hk=>hk.2) _) (fun _ hk=>hk.2) _) (fun _ h_=>h_.1))))) (Kd.Z8 (by(with_reducible repeat first|apply Kd.Qm|apply Kd.Ql|apply Kd.Qn);exact(Kd.Qr (Kd.Qs (Kd.Qs (Kd.Qs (Kd.Qv Y.out γ.out (by decide)) (fun _ hk=>hk.2) _) (fun _ hk=>hk.2) _) (fun _ hk=>hk.2) _) (fun _ h_=>h_.1))))) (Kd.Z8 (by(with_reducible repeat first|apply Kd.Qm|apply Kd.Ql|apply Kd.Qn);exact(Kd.Qr (Kd.Qs (Kd.Qs (Kd.Qs (Kd.Qv ν.out γ.out (by decide)) (fun _ hk=>hk.2) _) (fun _ hk=>hk.2) _) (fun _ hk=>hk.2) _) (fun _ h_=>h_.1))))) (Qj bel));replace J:=Aside0.mk (Kd.Zb (by(with_reducible repeat first|apply Kd.Qm|apply Kd.Ql|apply Kd.Qn);exact(Kd.Qr (Kd.Qs (Kd.Qs (Kd.Qs (Kd.Qv J.out γ.out (by decide)) (fun _ hk=>hk.2) _) (fun _ hk=>hk.2) _) (fun _ hk=>hk.2) _) (fun _ h_=>h_.1))) (Kd.Zf ρ) hb);replace L:=Aside0.mk (Kd.Zb (by(with_reducible repeat first|apply Kd.Qm|apply Kd.Ql|apply Kd.Qn);exact(Kd.Qr (Kd.Qs (Kd.Qs (Kd.Qs (Kd.Qv L.out γ.out (by decide)) (fun _ hk=>hk.2) _) (fun _ hk=>hk.2) _) (fun _ hk=>hk.2) _) (fun _ h_=>h_.1))) (Kd.Zf a7) hb);replace X:=Aside0.mk (Kd.Zb (by(with_reducible repeat first|apply Kd.Qm|apply Kd.Ql|apply Kd.Qn);exact(Kd.Qr (Kd.Qs (Kd.Qs (Kd.Qs (Kd.Qv X.out γ.out (by decide)) (fun _ hk=>hk.2) _) (fun _ hk=>hk.2) _) (fun _ hk=>hk.2) _) (fun _ h_=>h_.1))) (Kd.Zf ρ) hb);replace Y:=Aside0.mk (Kd.Zb (by(with_reducible repeat first|apply Kd.Qm|apply Kd.Ql|apply Kd.Qn);exact(Kd.Qr (Kd.Qs (Kd.Qs (Kd.Qs (Kd.Qv Y.out γ.out (by decide)) (fun _ hk=>hk.2) _) (fun _ hk=>hk.2) _) (fun _ hk=>hk.2) _) (fun _ h_=>h_.1))) (Kd.Zf a7) hb);replace θ :=Aside0.mk (Kd.Zb (by(with_reducible repeat first|apply Kd.Qm|apply Kd.Ql|apply Kd.Qn);exact(Kd.Qr (Kd.Qs (Kd.Qs (Kd.Qs (Kd.Qv θ.out γ.out (by decide)) (fun _ hk=>hk.2) _) (fun _ hk=>hk.2) _) (fun _ hk=>hk.2) _) (fun _ h_=>h_.1))) (Kd.Zf ρ) hb);replace ν :=Aside0.mk (Kd.Zb (by(with_reducible repeat first|apply Kd.Qm|apply Kd.Ql|apply Kd.Qn);exact(Kd.Qr (Kd.Qs (Kd.Qs (Kd.Qs (Kd.Qv ν.out γ.out (by decide)) (fun _ hk=>hk.2) _) (fun _ hk=>hk.2) _) (fun _ hk=>hk.2) _) (fun _ h_=>h_.1))) (Kd.Zf a7) hb);replace a5:=Aside0.mk (Kd.Qu (by(with_reducible repeat first|apply Kd.Qm|apply Kd.Ql|apply Kd.Qn);exact(Kd.Qr (Kd.Qs (Kd.Qs (Kd.Qs (Kd.Qv a5.out γ.out (by decide)) (fun _ hk=>hk.2) _) (fun _ hk=>hk.2) _) (fun _ hk=>hk.2) _) (fun _ h_=>h_.1))) hb);replace ω :=Aside0.mk (Kd.Qu (by(with_reducible repeat first|apply Kd.Qm|apply Kd.Ql|apply Kd.Qn);exact(Kd.Qr (Kd.Qs (Kd.Qs (Kd.Qs (Kd.Qv ω.out γ.out (by decide)) (fun _ hk=>hk.2) _) (fun _ hk=>hk.2) _) (fun _ hk=>hk.2) _) (fun _ h_=>h_.1))) hb);replace a2:=Aside0.mk (Kd.Qu (by(with_reducible repeat first|apply Kd.Qm|apply Kd.Ql|apply Kd.Qn);exact(Kd.Qr (Kd.Qs (Kd.Qs (Kd.Qs (Kd.Qv a2.out γ.out (by decide)) (fun _ hk=>hk.2) _) (fun _ hk=>hk.2) _) (fun _ hk=>hk.2) _) (fun _ h_=>h_.1))) hb);replace B:=sBk B hb;replace U:=sBk U hb;replace D:=sBk D hb;replace ζ :=sBk ζ hb;replace γ:=Aside0.mk (Qo (g:=br) (o:=.cells #[.slice bj b7.length bk,.slice ca ak.length cd,.slice cf bu.length ch] 47 (0,0)) (by(with_reducible repeat first|apply Qf|apply Qb|apply Qg);refine Qw (cs:=#[.slice bj b7.length bk,.slice ca ak.length cd,.slice none 0 0]) ?_ 2 _ rfl;(with_reducible repeat first|apply Qf|apply Qb|apply Qg);refine Qw (cs:=#[.slice bj b7.length bk,.slice none 0 0,.slice none 0 0]) ?_ 1 _ rfl;(with_reducible repeat first|apply Qf|apply Qb|apply Qg);refine Qw (cs:=#[.slice none 0 0,.slice none 0 0,.slice none 0 0]) ?_ 0 _ rfl;(with_reducible repeat first|apply Qf|apply Qb|apply Qg);exact γ.out) hb);replace HB:=sHb hb;(try clear hb);(try clear a0);(try clear hk);(try clear hi);(try clear ρ);(try clear a7))|((with_reducible refine Qp (N:=10) rfl ?_);(try(refine Xa (by rfl) ?_;dsimp only));refine qE 10 #[.slice none 0 0,.slice none 0 0] 27 ?_;intro bs hg i4 hbox hb;have μ :=Aside0.mk hbox;have ja:=sGe hg;have jb:=sGe hg;have e3:=sNl B hg;have e4:=sNg B hg;have e5:=sNl U hg;have e6:=sNg U hg;have e9:=sNl D hg;have ea:=sNg D hg;have eb:=sNl ζ hg;have eg:=sNg ζ hg;have eh:=sNl γ hg;have ei:=sNg γ hg;replace J:=sRb J hb;replace L:=sRb L hb;replace X:=sRb X hb;replace Y:=sRb Y hb;replace θ :=sRb θ hb;replace ν :=sRb ν hb;replace a5:=sRb a5 hb;replace ω :=sRb ω hb;replace a2:=sRb a2 hb;replace a8:=sRb a8 hb;replace ab:=sRb ab hb;replace B:=sBk B hb;replace U:=sBk U hb;replace D:=sBk D hb;replace ζ :=sBk ζ hb;replace γ:=sBk γ hb;replace HB:=sHb hb;clear hb hbox hg;obtain⟨cm,cn,dl⟩:=Kd.Q5 a8.out;subst dl;have hy:=e4.out;have i0:=e3.out;have iy:=e6.out;have iz:=e5.out;have ga:=ea.out;have gb:=e9.out;have gg:=eg.out;have gi:=eb.out;have h5:=ei.out;have h6:=eh.out;obtain⟨fx,fy,fz,g5⟩:=qD2 μ.out;obtain⟨ck,cu,h0⟩:=Kd.Q5 ab.out;subst h0;obtain⟨fn,fo,fp,fq⟩:=qD2 D.out)|((with_reducible refine Qp (N:=57) rfl ?_);(try(refine Xa (by rfl) ?_;dsimp only));refine Kd.Nf k56 _ 56 ?hg (N:=57) ?hd (xs:=([(⟨2,(-1),(-1)⟩:S56),(⟨2,1,(-1)⟩:S56)]:List (S56))) (inner:=[.int .i64 2,.int .i64 (-1),.int .i64 (-1),.int .i64 2,.int .i64 1,.int .i64 (-1)]) (ok:=fun _=>True) (okp:=fun _=>True) ?hr ?hp (fun _ hk=>hk) trivial (Below.refl _ _) (Nat.le_refl _) (by simp) ?_;(case hd=>rfl);(case hg=>rfl);(case hr=>go_simp <;> rfl);(case hp=>exact(Reps.c3 (show Kd.M k56 _ _ _ (⟨2,(-1),(-1)⟩:S56) [.int .i64 2,.int .i64 (-1),.int .i64 (-1)] from(Xi _ _ _ (⟨2,(-1),(-1)⟩:S56))) (Reps.c3 (show Kd.M k56 _ _ _ (⟨2,1,(-1)⟩:S56) [.int .i64 2,.int .i64 1,.int .i64 (-1)] from(Xi _ _ _ (⟨2,1,(-1)⟩:S56))) (Reps.none _ _))));intro jo il b6 hb hg_ hnew_;clear hg_ hnew_;(first|rw[← ej.out] at b6|(simp only[Int.reduceToNat] at b6;rw[← ej.out] at b6));have ae:=Aside0.mk (Kd.Q2 (Kd.Zr (Kd.Zr (Kd.Zr (Kd.Zr b6 (Kd.Z8 (by(with_reducible repeat first|apply Kd.Qm|apply Kd.Ql|apply Kd.Qn);exact(Kd.Qr (Kd.Qs (Kd.Qs (Kd.Qv J.out μ.out (by decide)) (fun _ hk=>hk.2) _) (fun _ hk=>hk.2) _) (fun _ h_=>h_.1))))) (Kd.Z8 (by(with_reducible repeat first|apply Kd.Qm|apply Kd.Ql|apply Kd.Qn);exact(Kd.Qr (Kd.Qs (Kd.Qs (Kd.Qv X.out μ.out (by decide)) (fun _ hk=>hk.2) _) (fun _ hk=>hk.2) _) (fun _ h_=>h_.1))))) (Kd.Z8 (by(with_reducible repeat first|apply Kd.Qm|apply Kd.Ql|apply Kd.Qn);exact(Kd.Qr (Kd.Qs (Kd.Qs (Kd.Qv θ.out μ.out (by decide)) (fun _ hk=>hk.2) _) (fun _ hk=>hk.2) _) (fun _ h_=>h_.1))))) (Kd.Z8 (by(with_reducible repeat first|apply Kd.Qm|apply Kd.Ql|apply Kd.Qn);exact(Kd.Qr (Kd.Qs (Kd.Qs (Kd.Qv a8.out μ.out (by decide)) (fun _ hk=>hk.2) _) (fun _ hk=>hk.2) _) (fun _ h_=>h_.1))))) (Qj bel));replace J:=Aside0.mk (Kd.Zb (by(with_reducible repeat first|apply Kd.Qm|apply Kd.Ql|apply Kd.Qn);exact(Kd.Qr (Kd.Qs (Kd.Qs (Kd.Qv J.out μ.out (by decide)) (fun _ hk=>hk.2) _) (fun _ hk=>hk.2) _) (fun _ h_=>h_.1))) (Kd.Zf b6) hb);replace L:=Aside0.mk (Kd.Qu (by(with_reducible repeat first|apply Kd.Qm|apply Kd.Ql|apply Kd.Qn);exact(Kd.Qr (Kd.Qs (Kd.Qs (Kd.Qv L.out μ.out (by decide)) (fun _ hk=>hk.2) _) (fun _ hk=>hk.2) _) (fun _ h_=>h_.1))) hb);replace X:=Aside0.mk (Kd.Zb (by(with_reducible repeat first|apply Kd.Qm|apply Kd.Ql|apply Kd.Qn);exact(Kd.Qr (Kd.Qs (Kd.Qs (Kd.Qv X.out μ.out (by decide)) (fun _ hk=>hk.2) _) (fun _ hk=>hk.2) _) (fun _ h_=>h_.1))) (Kd.Zf b6) hb);replace Y:=Aside0.mk (Kd.Qu (by(with_reducible repeat first|apply Kd.Qm|apply Kd.Ql|apply Kd.Qn);exact(Kd.Qr (Kd.Qs (Kd.Qs (Kd.Qv Y.out μ.out (by decide)) (fun _ hk=>hk.2) _) (fun _ hk=>hk.2) _) (fun _ h_=>h_.1))) hb);replace θ :=Aside0.mk (Kd.Zb (by(with_reducible repeat first|apply Kd.Qm|apply Kd.Ql|apply Kd.Qn);exact(Kd.Qr (Kd.Qs (Kd.Qs (Kd.Qv θ.out μ.out (by decide)) (fun _ hk=>hk.2) _) (fun _ hk=>hk.2) _) (fun _ h_=>h_.1))) (Kd.Zf b6) hb);replace ν :=Aside0.mk (Kd.Qu (by(with_reducible repeat first|apply Kd.Qm|apply Kd.Ql|apply Kd.Qn);exact(Kd.Qr (Kd.Qs (Kd.Qs (Kd.Qv ν.out μ.out (by decide)) (fun _ hk=>hk.2) _) (fun _ hk=>hk.2) _) (fun _ h_=>h_.1))) hb);replace a5:=Aside0.mk (Kd.Qu (by(with_reducible repeat first|apply Kd.Qm|apply Kd.Ql|apply Kd.Qn);exact(Kd.Qr (Kd.Qs (Kd.Qs (Kd.Qv a5.out μ.out (by decide)) (fun _ hk=>hk.2) _) (fun _ hk=>hk.2) _) (fun _ h_=>h_.1))) hb);replace ω :=Aside0.mk (Kd.Qu (by(with_reducible repeat first|apply Kd.Qm|apply Kd.Ql|apply Kd.Qn);exact(Kd.Qr (Kd.Qs (Kd.Qs (Kd.Qv ω.out μ.out (by decide)) (fun _ hk=>hk.2) _) (fun _ hk=>hk.2) _) (fun _ h_=>h_.1))) hb);replace a2:=Aside0.mk (Kd.Qu (by(with_reducible repeat first|apply Kd.Qm|apply Kd.Ql|apply Kd.Qn);exact(Kd.Qr (Kd.Qs (Kd.Qs (Kd.Qv a2.out μ.out (by decide)) (fun _ hk=>hk.2) _) (fun _ hk=>hk.2) _) (fun _ h_=>h_.1))) hb);replace a8:=Aside0.mk (Kd.Zb (by(with_reducible repeat first|apply Kd.Qm|apply Kd.Ql|apply Kd.Qn);exact(Kd.Qr (Kd.Qs (Kd.Qs (Kd.Qv a8.out μ.out (by decide)) (fun _ hk=>hk.2) _) (fun _ hk=>hk.2) _) (fun _ h_=>h_.1))) (Kd.Zf b6) hb);replace ab:=Aside0.mk (Kd.Qu (by(with_reducible repeat first|apply Kd.Qm|apply Kd.Ql|apply Kd.Qn);exact(Kd.Qr (Kd.Qs (Kd.Qs (Kd.Qv ab.out μ.out (by decide)) (fun _ hk=>hk.2) _) (fun _ hk=>hk.2) _) (fun _ h_=>h_.1))) hb);replace B:=sBk B hb;replace U:=sBk U hb;replace D:=sBk D hb;replace ζ :=sBk ζ hb;replace γ:=sBk γ hb;replace μ :=Aside0.mk (Qo (g:=bs) (o:=.cells #[.slice cm am.length cn,.slice ck bw.length cu] 27 (0,0)) (by(with_reducible repeat first|apply Qf|apply Qb|apply Qg);refine Qw (cs:=#[.slice cm am.length cn,.slice none 0 0]) ?_ 1 _ rfl;(with_reducible repeat first|apply Qf|apply Qb|apply Qg);refine Qw (cs:=#[.slice none 0 0,.slice none 0 0]) ?_ 0 _ rfl;(with_reducible repeat first|apply Qf|apply Qb|apply Qg);exact μ.out) hb);replace HB:=sHb hb;clear hb b6;obtain⟨et,eu,ek⟩:=Kd.Q5 ae.out;subst ek)|(go_at_call 15;(refine(newelref19_Same.calls k _ _ τ _ _ η _ _ fh _ _ ([]:List (S62)) true _ ?side1 ?side2 ?side3 ?side4 ?side5 ?side6 ?side7 ?side8 A8.out).mono ?_);(case side1=>repeat(first|exact(Kd.Qq X.out).2.2|(with_reducible refine Kd.Za ?_ _)|(with_reducible refine Kd.Q9 ?_ _)|(with_reducible refine Kd.Zm ?_)));(case side2=>exact(Kd.Qq X.out).2.1);(case side3=>repeat(first|exact(Kd.Qq Y.out).2.2|(with_reducible refine Kd.Za ?_ _)|(with_reducible refine Kd.Q9 ?_ _)|(with_reducible refine Kd.Zm ?_)));(case side4=>exact(Kd.Qq Y.out).2.1);(case side5=>repeat(first|exact(Kd.Qq ae.out).2.2|(with_reducible refine Kd.Za ?_ _)|(with_reducible refine Kd.Q9 ?_ _)|(with_reducible refine Kd.Zm ?_)));(case side6=>exact(Kd.Qq ae.out).2.1);(case side7=>exact Kd.Gr _ _);(case side8=>exact Nat.le_refl _);rintro e io ⟨rfl,hb⟩;have O:=Aside0.mk (Kd.Qu (kra J) hb);have Z:=Aside0.mk (Kd.Qu (kra L) hb);have ι :=Aside0.mk (Kd.Qu (kra X) hb);have κ :=Aside0.mk (Kd.Qu (kra Y) hb);have ξ :=Aside0.mk (Kd.Qu (kra θ) hb);have ψ :=Aside0.mk (Kd.Qu (kra ν) hb);have a1:=Aside0.mk (Kd.Qu (kra a5) hb);have af:=Aside0.mk (Kd.Qu (kra ω) hb);have al:=Aside0.mk (Kd.Qu (kra a2) hb);have ax:=Aside0.mk (Kd.Qu (kra a8) hb);have ap:=Aside0.mk (Kd.Qu (kra ab) hb);have aw:=Aside0.mk (Kd.Qu (kra ae) hb);have b1:=Aside0.mk (Qo (g:=bm) (o:=.cells #[.int .i64 4,.int .i64 2] 23 (0,0)) (bka B) hb);have b8:=Aside0.mk (Qo (g:=a3) (o:=.cells #[.slice av I.length ao,.slice bd ε.length bc] 27 (0,0)) (bka U) hb);have b9:=Aside0.mk (Qo (g:=bp) (o:=.cells #[.slice b3 τ.length b0,.slice ct η.length ce] 27 (0,0)) (bka D) hb);have be:=Aside0.mk (Qo (g:=bq) (o:=.cells #[.slice bh ah.length b2,.slice bi aj.length bg] 27 (0,0)) (bka ζ) hb);have bf:=Aside0.mk (Qo (g:=br) (o:=.cells #[.slice bj b7.length bk,.slice ca ak.length cd,.slice cf bu.length ch] 47 (0,0)) (bka γ) hb);have d7:=Aside0.mk (Qo (g:=bs) (o:=.cells #[.slice cm am.length cn,.slice ck bw.length cu] 27 (0,0)) (bka μ) hb);have d8:=Aside0.mk (Qt bel hb);clear J;clear L;clear X;clear Y;clear θ;clear ν;clear a5;clear ω;clear a2;clear a8;clear ab;clear ae;clear B;clear U;clear D;clear ζ;clear γ;clear μ;clear HB;have J:=O;have L:=Z;have X:= ι;have Y:= κ;have θ := ξ;have ν := ψ;have a5:=a1;have ω :=af;have a2:=al;have a8:=ax;have ab:=ap;have ae:=aw;have B:=b1;have U:=b8;have D:=b9;have ζ :=be;have γ:=bf;have μ :=d7;have HB:=d8;clear O Z ι κ ξ ψ a1 af al ax ap aw b1 b8 b9 be bf d7 d8;(try clear hb);(try clear a0);(try clear hk);(try clear hi);obtain⟨er,ev,i6,fa,fc,i7⟩:=qD3 γ.out;obtain⟨i9,ia,ib,ij⟩:=qD2 μ.out;obtain⟨ik,ip,iq,ir⟩:=qD2 U.out)|(go_at_call 27;(with_reducible refine(call_Same.calls k _ _ I _ _ ε _ _ I _ _ ε true _ ?side1 ?side2 ?side3 ?side4 ?side5 ?side6 ?side7 ?side8 im.out).mono ?_);(case side1=>repeat(first|exact(Kd.Qq J.out).2.2|(with_reducible refine Kd.Za ?_ _)|(with_reducible refine Kd.Q9 ?_ _)|(with_reducible refine Kd.Zm ?_)));(case side2=>exact(Kd.Qq J.out).2.1);(case side3=>repeat(first|exact(Kd.Qq L.out).2.2|(with_reducible refine Kd.Za ?_ _)|(with_reducible refine Kd.Q9 ?_ _)|(with_reducible refine Kd.Zm ?_)));(case side4=>exact(Kd.Qq L.out).2.1);(case side5=>repeat(first|exact(Kd.Qq J.out).2.2|(with_reducible refine Kd.Za ?_ _)|(with_reducible refine Kd.Q9 ?_ _)|(with_reducible refine Kd.Zm ?_)));(case side6=>exact(Kd.Qq J.out).2.1);(case side7=>repeat(first|exact(Kd.Qq L.out).2.2|(with_reducible refine Kd.Za ?_ _)|(with_reducible refine Kd.Q9 ?_ _)|(with_reducible refine Kd.Zm ?_)));(case side8=>exact(Kd.Qq L.out).2.1);rintro e jq ⟨rfl,hb⟩;have O:=Aside0.mk (Kd.Qu (kra J) hb);have Z:=Aside0.mk (Kd.Qu (kra L) hb);have ι :=Aside0.mk (Kd.Qu (kra X) hb);have κ :=Aside0.mk (Kd.Qu (kra Y) hb);have ξ :=Aside0.mk (Kd.Qu (kra θ) hb);have ψ :=Aside0.mk (Kd.Qu (kra ν) hb);have a1:=Aside0.mk (Kd.Qu (kra a5) hb);have af:=Aside0.mk (Kd.Qu (kra ω) hb);have al:=Aside0.mk (Kd.Qu (kra a2) hb);have ax:=Aside0.mk (Kd.Qu (kra a8) hb);have ap:=Aside0.mk (Kd.Qu (kra ab) hb);have aw:=Aside0.mk (Kd.Qu (kra ae) hb);have b1:=Aside0.mk (Qo (g:=bm) (o:=.cells #[.int .i64 4,.int .i64 2] 23 (0,0)) (bka B) hb);have b8:=Aside0.mk (Qo (g:=a3) (o:=.cells #[.slice av I.length ao,.slice bd ε.length bc] 27 (0,0)) (bka U) hb);have b9:=Aside0.mk (Qo (g:=bp) (o:=.cells #[.slice b3 τ.length b0,.slice ct η.length ce] 27 (0,0)) (bka D) hb);have be:=Aside0.mk (Qo (g:=bq) (o:=.cells #[.slice bh ah.length b2,.slice bi aj.length bg] 27 (0,0)) (bka ζ) hb);have bf:=Aside0.mk (Qo (g:=br) (o:=.cells #[.slice bj b7.length bk,.slice ca ak.length cd,.slice cf bu.length ch] 47 (0,0)) (bka γ) hb);have d7:=Aside0.mk (Qo (g:=bs) (o:=.cells #[.slice cm am.length cn,.slice ck bw.length cu] 27 (0,0)) (bka μ) hb);have d8:=Aside0.mk (Qt bel hb);clear J;clear L;clear X;clear Y;clear θ;clear ν;clear a5;clear ω;clear a2;clear a8;clear ab;clear ae;clear B;clear U;clear D;clear ζ;clear γ;clear μ;clear HB;have J:=O;have L:=Z;have X:= ι;have Y:= κ;have θ := ξ;have ν := ψ;have a5:=a1;have ω :=af;have a2:=al;have a8:=ax;have ab:=ap;have ae:=aw;have B:=b1;have U:=b8;have D:=b9;have ζ :=be;have γ:=bf;have μ :=d7;have HB:=d8;clear O Z ι κ ξ ψ a1 af al ax ap aw b1 b8 b9 be bf d7 d8;(try clear hb);(try clear a0);(try clear hk);(try clear hi);obtain⟨fg,fk,fl,fm⟩:=qD2 U.out;obtain⟨fr,ft,fu,fv⟩:=qD2 D.out)|(go_at_call 27;(with_reducible refine(call_Same.calls k _ _ I _ _ ε _ _ τ _ _ η false _ ?side1 ?side2 ?side3 ?side4 ?side5 ?side6 ?side7 ?side8 gu.out).mono ?_);(case side1=>repeat(first|exact(Kd.Qq J.out).2.2|(with_reducible refine Kd.Za ?_ _)|(with_reducible refine Kd.Q9 ?_ _)|(with_reducible refine Kd.Zm ?_)));(case side2=>exact(Kd.Qq J.out).2.1);(case side3=>repeat(first|exact(Kd.Qq L.out).2.2|(with_reducible refine Kd.Za ?_ _)|(with_reducible refine Kd.Q9 ?_ _)|(with_reducible refine Kd.Zm ?_)));(case side4=>exact(Kd.Qq L.out).2.1);(case side5=>repeat(first|exact(Kd.Qq X.out).2.2|(with_reducible refine Kd.Za ?_ _)|(with_reducible refine Kd.Q9 ?_ _)|(with_reducible refine Kd.Zm ?_)));(case side6=>exact(Kd.Qq X.out).2.1);(case side7=>repeat(first|exact(Kd.Qq Y.out).2.2|(with_reducible refine Kd.Za ?_ _)|(with_reducible refine Kd.Q9 ?_ _)|(with_reducible refine Kd.Zm ?_)));(case side8=>exact(Kd.Qq Y.out).2.1);rintro e jr ⟨rfl,hb⟩;have O:=Aside0.mk (Kd.Qu (kra J) hb);have Z:=Aside0.mk (Kd.Qu (kra L) hb);have ι :=Aside0.mk (Kd.Qu (kra X) hb);have κ :=Aside0.mk (Kd.Qu (kra Y) hb);have ξ :=Aside0.mk (Kd.Qu (kra θ) hb);have ψ :=Aside0.mk (Kd.Qu (kra ν) hb);have a1:=Aside0.mk (Kd.Qu (kra a5) hb);have af:=Aside0.mk (Kd.Qu (kra ω) hb);have al:=Aside0.mk (Kd.Qu (kra a2) hb);have ax:=Aside0.mk (Kd.Qu (kra a8) hb);have ap:=Aside0.mk (Kd.Qu (kra ab) hb);have aw:=Aside0.mk (Kd.Qu (kra ae) hb);have b1:=Aside0.mk (Qo (g:=bm) (o:=.cells #[.int .i64 4,.int .i64 2] 23 (0,0)) (bka B) hb);have b8:=Aside0.mk (Qo (g:=a3) (o:=.cells #[.slice av I.length ao,.slice bd ε.length bc] 27 (0,0)) (bka U) hb);have b9:=Aside0.mk (Qo (g:=bp) (o:=.cells #[.slice b3 τ.length b0,.slice ct η.length ce] 27 (0,0)) (bka D) hb);have be:=Aside0.mk (Qo (g:=bq) (o:=.cells #[.slice bh ah.length b2,.slice bi aj.length bg] 27 (0,0)) (bka ζ) hb);have bf:=Aside0.mk (Qo (g:=br) (o:=.cells #[.slice bj b7.length bk,.slice ca ak.length cd,.slice cf bu.length ch] 47 (0,0)) (bka γ) hb);have d7:=Aside0.mk (Qo (g:=bs) (o:=.cells #[.slice cm am.length cn,.slice ck bw.length cu] 27 (0,0)) (bka μ) hb);have d8:=Aside0.mk (Qt bel hb);clear J;clear L;clear X;clear Y;clear θ;clear ν;clear a5;clear ω;clear a2;clear a8;clear ab;clear ae;clear B;clear U;clear D;clear ζ;clear γ;clear μ;clear HB;have J:=O;have L:=Z;have X:= ι;have Y:= κ;have θ := ξ;have ν := ψ;have a5:=a1;have ω :=af;have a2:=al;have a8:=ax;have ab:=ap;have ae:=aw;have B:=b1;have U:=b8;have D:=b9;have ζ :=be;have γ:=bf;have μ :=d7;have HB:=d8;clear O Z ι κ ξ ψ a1 af al ax ap aw b1 b8 b9 be bf d7 d8;(try clear hb);(try clear a0);(try clear hk);(try clear hi);obtain⟨ic,ie,ig,ii⟩:=qD2 B.out;obtain⟨it,iu,iv,iw⟩:=qD2 D.out)|(go_at_call 14;(with_reducible refine(call_Check.calls k 4 2 _ _ τ _ _ η φ _ ?side1 ?side2 ?side3 ?side4 ix.out).mono ?_);(case side1=>repeat(first|exact(Kd.Qq X.out).2.2|(with_reducible refine Kd.Za ?_ _)|(with_reducible refine Kd.Q9 ?_ _)|(with_reducible refine Kd.Zm ?_)));(case side2=>exact(Kd.Qq X.out).2.1);(case side3=>repeat(first|exact(Kd.Qq Y.out).2.2|(with_reducible refine Kd.Za ?_ _)|(with_reducible refine Kd.Q9 ?_ _)|(with_reducible refine Kd.Zm ?_)));(case side4=>exact(Kd.Qq Y.out).2.1);rintro e js ⟨rfl,hb⟩;have O:=Aside0.mk (Kd.Qu (kra J) hb);have Z:=Aside0.mk (Kd.Qu (kra L) hb);have ι :=Aside0.mk (Kd.Qu (kra X) hb);have κ :=Aside0.mk (Kd.Qu (kra Y) hb);have ξ :=Aside0.mk (Kd.Qu (kra θ) hb);have ψ :=Aside0.mk (Kd.Qu (kra ν) hb);have a1:=Aside0.mk (Kd.Qu (kra a5) hb);have af:=Aside0.mk (Kd.Qu (kra ω) hb);have al:=Aside0.mk (Kd.Qu (kra a2) hb);have ax:=Aside0.mk (Kd.Qu (kra a8) hb);have ap:=Aside0.mk (Kd.Qu (kra ab) hb);have aw:=Aside0.mk (Kd.Qu (kra ae) hb);have b1:=Aside0.mk (Qo (g:=bm) (o:=.cells #[.int .i64 4,.int .i64 2] 23 (0,0)) (bka B) hb);have b8:=Aside0.mk (Qo (g:=a3) (o:=.cells #[.slice av I.length ao,.slice bd ε.length bc] 27 (0,0)) (bka U) hb);have b9:=Aside0.mk (Qo (g:=bp) (o:=.cells #[.slice b3 τ.length b0,.slice ct η.length ce] 27 (0,0)) (bka D) hb);have be:=Aside0.mk (Qo (g:=bq) (o:=.cells #[.slice bh ah.length b2,.slice bi aj.length bg] 27 (0,0)) (bka ζ) hb);have bf:=Aside0.mk (Qo (g:=br) (o:=.cells #[.slice bj b7.length bk,.slice ca ak.length cd,.slice cf bu.length ch] 47 (0,0)) (bka γ) hb);have d7:=Aside0.mk (Qo (g:=bs) (o:=.cells #[.slice cm am.length cn,.slice ck bw.length cu] 27 (0,0)) (bka μ) hb);have d8:=Aside0.mk (Qt bel hb);clear J;clear L;clear X;clear Y;clear θ;clear ν;clear a5;clear ω;clear a2;clear a8;clear ab;clear ae;clear B;clear U;clear D;clear ζ;clear γ;clear μ;clear HB;have J:=O;have L:=Z;have X:= ι;have Y:= κ;have θ := ξ;have ν := ψ;have a5:=a1;have ω :=af;have a2:=al;have a8:=ax;have ab:=ap;have ae:=aw;have B:=b1;have U:=b8;have D:=b9;have ζ :=be;have γ:=bf;have μ :=d7;have HB:=d8;clear O Z ι κ ξ ψ a1 af al ax ap aw b1 b8 b9 be bf d7 d8;(try clear hb);(try clear a0);(try clear hk);(try clear hi)))
           go_ret
           exact⟨rfl,HB.out⟩
         ·replace an:=Bool.eq_false_iff.mpr an
          subst an
          have H1:(none)=some r:=by rw[if_neg (show ¬ (false=true) by decide)] at H;exact H
          clear H
          have H:=H1
          clear H1
          exact absurd H (by simp)
        ·rw[if_neg az] at H
         exact absurd H (by simp)
       ·rw[if_neg ba] at H
        exact absurd H (by simp)
      ·rw[if_neg ci] at H
       exact absurd H (by simp)
     ·rw[if_neg cb] at H
      exact absurd H (by simp)
    ·rw[if_neg c10] at H
     exact absurd H (by simp)
   ·replace c9:=Bool.eq_false_iff.mpr c9
    subst c9
    have H1:(none)=some r:=by rw[if_neg (show ¬ (false=true) by decide)] at H;exact H
    clear H
    have H:=H1
    clear H1
    exact absurd H (by simp)
  ·rw[if_neg c7] at H
   exact absurd H (by simp)
 ·rw[if_neg c6] at H
  exact absurd H (by simp)
end Go.Proofs.Ytjehhhlhalkieaa.C
namespace Go.Proofs.Ytjehhhlhalkieaa.Call
open Go.RowKit Go.Proofs.YtjehhhlhalkieaaW.PrintWords Go.Proofs.YtjehhhlhalkieaaW.PrintLast Go.Proofs.YtjehhhlhalkieaaW.PrintMore Go.Proofs.Ytjehhhlhalkieaa.C
set_option linter.unusedVariables false
set_option linter.unusedSimpArgs false
theorem En (H:List Hall) (I:List Ins):newelref19_Few.f H I=some false∨(newelref19_Few.f H I=some true∧H.length≤130∧I.length≤520):=by
  unfold newelref19_Few.f
  by_cases h1:(H.length:Int)≤130
  · rw[if_pos h1]
    by_cases O:(I.length:Int)≤520
    · exact .inr ⟨by rw[decide_eq_true O],by omega,by omega⟩
    · exact .inl (by rw[decide_eq_false O])
  · rw[if_neg h1];exact .inl rfl
theorem M8:newellaw19_awake.f 40=some true:=by kernel_rfl
theorem M7 (k:Nat) (hk:40≤k):newellaw19_awake.f k=some true:=L6 (g:=newellaw19_awake.f) newellaw19_awake.mono hk M8
end Go.Proofs.Ytjehhhlhalkieaa.Call
