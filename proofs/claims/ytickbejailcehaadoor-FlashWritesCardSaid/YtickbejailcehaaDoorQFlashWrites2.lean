/- Texts of this claim, one behind the other: what the law's functions come to, walked (printed by a program, with the words that the print uses), and what that is, in plain Lean. No conditions of their own. -/
import Derived.Test.YtickbejailcehaaDoorQFlashWrites1
import Derived.Test.YtickbejailcehaaDoorProg
namespace Go.Proofs.YtickbejailcehaaDoorW.PrintWords
open Go.RowKit Go.Proofs.YtickbejailcehaaDoorW.PrintLast Go.Proofs.YtickbejailcehaaDoorW.PrintMore
def qB (n m:Nat):Array Bool:=((List.range n).map fun i=>m.testBit i).toArray
theorem qP {P:Program} {ops:Array Oper} {Q:Exit→Act→World→Prop} {md:Region.Mode} {S:World→Prop} {ds:List Nat} {oi:Oper} {v:Value} {fuel:Nat} {l:Array Bool} {a:Act} {w:World} {T:Bool×List (List Nat×List Nat)} (i:Nat) (N:Option Tmp) (l':Array Bool) (ht:Aside0 (rtab md ops=T)) {a':Act} (h:Zg P md ops Q S ds fuel l' a' w) (hi:ops[i]?=some oi:=by rfl) (hN:oi.dst=N:=by rfl) (hc:Ec T l.toList l'.toList i=true:=by kernel_rfl) (hQ:∀ c a w,Q (.panic c) (a.put oi.dst v) w→Q (.panic c) a w:=by exact(fun _ _ _ h=>h)) (hy:Yields P ops oi v a:=by(refine Or.inl ⟨by rfl, ?_⟩;intro w';go_simp;with_reducible rfl)) (ha:a.put N v=a':=by(simp only[Act.put,qS,Zu,Z4];rfl)):Zg P md ops Q S ds (fuel+1) l a w:=G2 l' hi hN (M9 ht.out hc) hQ hy ha h
theorem qU {P:Program} {ops:Array Oper} {Q:Exit→Act→World→Prop} {md:Region.Mode} {S:World→Prop} {ds:List Nat} {oi:Oper} {fuel:Nat} {l:Array Bool} {a:Act} {w:World} {T:Bool×List (List Nat×List Nat)} (i:Nat) (N:Option Tmp) (l':Array Bool) (ht:Aside0 (rtab md ops=T)) {a':Act} (h:Zg P md ops Q S ds fuel l' a' w) (hi:ops[i]?=some oi:=by rfl) (hN:oi.dst=N:=by rfl) (hc:Ec T l.toList l'.toList i=true:=by kernel_rfl) (hQ:∀ c a w,Q (.panic c) (a.put oi.dst undef) w→Q (.panic c) a w:=by exact(fun _ _ _ h=>h)) (hy:Yields P ops oi undef a:=by exact(Or.inr ⟨by rfl,rfl⟩)) (ha:a.put N undef=a':=by(simp only[Act.put,qS,Zu,Z4];rfl)):Zg P md ops Q S ds (fuel+1) l a w:=G2 l' hi hN (M9 ht.out hc) hQ hy ha h
theorem qT {P:Program} {ops:Array Oper} {Q:Exit→Act→World→Prop} {md:Region.Mode} {S:World→Prop} {ds:List Nat} {oi:Oper} {v:Value} {fuel:Nat} {l:Array Bool} {a:Act} {w:World} {T:Bool×List (List Nat×List Nat)} {B:List Nat} (i:Nat) (N:Option Tmp) (l':Array Bool) (ht:Aside0 (rtab md ops=T)) (hW:Aside0 (Yb T.snd B=true)) (hS:S w) {a':Act} (h:Zg P md ops Q S ds fuel l' a' w) (hi:ops[i]?=some oi:=by rfl) (hN:oi.dst=N:=by rfl) (hc:Lr T B ds l.toList l'.toList i=true:=by kernel_rfl) (hQ:∀ c a w,Q (.panic c) (a.put oi.dst v) w→Q (.panic c) a w:=by exact(fun _ _ _ h=>h)) (hy:YieldsIf P ops S oi v a:=by(refine Or.inl ⟨by rfl, ?_⟩;intro w' hs_;(repeat obtain⟨_,hs_⟩:=(hs_:_∧_));go_simp;with_reducible rfl)) (ha:a.put N v=a':=by(simp only[Act.put,qS,Zu,Z4];rfl)):Zg P md ops Q S ds (fuel+1) l a w:=Gz l' hi hN (Lq ht.out hW.out hc) hQ hy hS ha h
theorem qN {P:Program} {ops:Array Oper} {Q:Exit→Act→World→Prop} {md:Region.Mode} {S:World→Prop} {ds:List Nat} {v:Value} {fuel:Nat} {l:Array Bool} {a:Act} {w:World} (N:Option Tmp) {a':Act} (h:Zg P md ops Q S ds fuel l a' w) (ha:a.put N v=a':=by(simp only[Act.put,qS,Zu,Z4];rfl)):Zg P md ops Q S ds fuel l (a.put N v) w:=Yt ha h
theorem qc {w:World} {g i:Nat} {t:TypeId} {cs:Array Value} {v:Value} (b:Aside0 (w.heap[g]?=some (.cells cs t (0,0)))) (h:cs[i]?=some v:=by exact rfl):w.cell? ⟨g,i,none⟩=some v:=(Q3 b.out i).trans h
theorem qM {p:Prop} (h:p:=by((try simp only[List.map_toArray,List.map_cons,List.map_nil]) <;> (first|done|rfl))):p:=h
theorem qE {P:Program} {ops:Array Oper} {Q:Exit→Act→World→Prop} {o:Oper} {rest:List Oper} {a:Act} {W:World} (N:Tmp) (cs:Array Value) (t:TypeId) (h:∀ g,g=W.heap.size → ∀ w1,w1.heap[g]?=some (.cells cs t (0,0))→Below W.heap.size W w1→wpList P ops Q rest (a.put o.dst (.pointer (some ⟨g,0,none⟩))) w1) (hd:o.dst=some N:=by rfl) (hg:o.guard=none:=by rfl) (hr:(execOp a.eval o).run P W = .ok (.value (.pointer (some ⟨W.heap.size,0,none⟩))) (W.alloc (.cells cs t (0,0))):=by(go_simp <;> rfl)):wpList P ops Q (o :: rest) a W:=Q7 hg (N:=N) hd (cs:=cs) (t:=t) hr h
theorem qD2 {w:World} {g:Nat} {t:TypeId} {J B:Value} (b:w.heap[g]?=some (.cells #[J,B] t (0,0))):w.cell? ⟨g,0,none⟩=some J∧w.cell? ⟨g,1,none⟩=some B∧w.frozen? ⟨g,0,none⟩=false∧w.frozen? ⟨g,1,none⟩=false:=⟨(Q3 b 0).trans rfl,(Q3 b 1).trans rfl,Q6 b 0,Q6 b 1⟩
theorem qD3 {w:World} {g:Nat} {t:TypeId} {J B a2:Value} (b:w.heap[g]?=some (.cells #[J,B,a2] t (0,0))):w.cell? ⟨g,0,none⟩=some J∧w.cell? ⟨g,1,none⟩=some B∧w.cell? ⟨g,2,none⟩=some a2∧w.frozen? ⟨g,0,none⟩=false∧w.frozen? ⟨g,1,none⟩=false∧w.frozen? ⟨g,2,none⟩=false:=⟨(Q3 b 0).trans rfl,(Q3 b 1).trans rfl,(Q3 b 2).trans rfl,Q6 b 0,Q6 b 1,Q6 b 2⟩
theorem qD4 {w:World} {g:Nat} {t:TypeId} {J B a2 I:Value} (b:w.heap[g]?=some (.cells #[J,B,a2,I] t (0,0))):w.cell? ⟨g,0,none⟩=some J∧w.cell? ⟨g,1,none⟩=some B∧w.cell? ⟨g,2,none⟩=some a2∧w.cell? ⟨g,3,none⟩=some I∧w.frozen? ⟨g,0,none⟩=false∧w.frozen? ⟨g,1,none⟩=false∧w.frozen? ⟨g,2,none⟩=false∧w.frozen? ⟨g,3,none⟩=false:=⟨(Q3 b 0).trans rfl,(Q3 b 1).trans rfl,(Q3 b 2).trans rfl,(Q3 b 3).trans rfl,Q6 b 0,Q6 b 1,Q6 b 2,Q6 b 3⟩
theorem qD5 {w:World} {g:Nat} {t:TypeId} {J B a2 I U:Value} (b:w.heap[g]?=some (.cells #[J,B,a2,I,U] t (0,0))):w.cell? ⟨g,0,none⟩=some J∧w.cell? ⟨g,1,none⟩=some B∧w.cell? ⟨g,2,none⟩=some a2∧w.cell? ⟨g,3,none⟩=some I∧w.cell? ⟨g,4,none⟩=some U∧w.frozen? ⟨g,0,none⟩=false∧w.frozen? ⟨g,1,none⟩=false∧w.frozen? ⟨g,2,none⟩=false∧w.frozen? ⟨g,3,none⟩=false∧w.frozen? ⟨g,4,none⟩=false:=⟨(Q3 b 0).trans rfl,(Q3 b 1).trans rfl,(Q3 b 2).trans rfl,(Q3 b 3).trans rfl,(Q3 b 4).trans rfl,Q6 b 0,Q6 b 1,Q6 b 2,Q6 b 3,Q6 b 4⟩
theorem qD6 {w:World} {g:Nat} {t:TypeId} {J B a2 I U Y:Value} (b:w.heap[g]?=some (.cells #[J,B,a2,I,U,Y] t (0,0))):w.cell? ⟨g,0,none⟩=some J∧w.cell? ⟨g,1,none⟩=some B∧w.cell? ⟨g,2,none⟩=some a2∧w.cell? ⟨g,3,none⟩=some I∧w.cell? ⟨g,4,none⟩=some U∧w.cell? ⟨g,5,none⟩=some Y∧w.frozen? ⟨g,0,none⟩=false∧w.frozen? ⟨g,1,none⟩=false∧w.frozen? ⟨g,2,none⟩=false∧w.frozen? ⟨g,3,none⟩=false∧w.frozen? ⟨g,4,none⟩=false∧w.frozen? ⟨g,5,none⟩=false:=⟨(Q3 b 0).trans rfl,(Q3 b 1).trans rfl,(Q3 b 2).trans rfl,(Q3 b 3).trans rfl,(Q3 b 4).trans rfl,(Q3 b 5).trans rfl,Q6 b 0,Q6 b 1,Q6 b 2,Q6 b 3,Q6 b 4,Q6 b 5⟩
end Go.Proofs.YtickbejailcehaaDoorW.PrintWords
namespace Go.Proofs.YtickbejailcehaaDoor.C
open Go.RowKit Go.Proofs.YtickbejailcehaaDoorW.PrintWords Go.Proofs.YtickbejailcehaaDoorW.PrintLast Go.Proofs.YtickbejailcehaaDoorW.PrintMore
attribute [local go_sem] Xm Xk X0 Xz Xc Xb Xl Xj
set_option linter.unusedVariables false
set_option linter.unusedSimpArgs false
def errW:Option Int→Value
 |none=>.nilIface
 |some c=>.iface 0 (.int .i64 c)
theorem Qo:errW none = .nilIface:=rfl
theorem Qn (c:Int):errW (some c) = .iface 0 (.int .i64 c):=rfl
theorem El:(Tryd.prog.info? 3).map (fun i=>(i.zero,i.size,i.bytes))=some (some (.int .i64 0),1,8):=by kernel_rfl
theorem Zx:(Tryd.prog.info? 5).map (fun i=>(i.zero,i.size,i.bytes))=some (some (.int .u8 0),1,1):=by kernel_rfl
structure S26 where
 f0:Int
 f1:Int
 f2:Int
 f3:(List Int)
def k26:Kd S26:=Kd.iso (Kd.pair (Kd.int .i64) (Kd.pair (Kd.int .i64) (Kd.pair (Kd.int .i64) (Kd.slice 5 (Kd.int .u8))))) (fun x:S26=>(x.f0,x.f1,x.f2,x.f3))
theorem Mo {w:World} {x:S26} {cs:List Value} (h:k26.K w x cs):∃ A3 c3,cs = [.int .i64 x.f0,.int .i64 x.f1,.int .i64 x.f2,.slice A3 x.f3.length c3]∧x.f3.length≤c3∧(Kd.int .u8).C w A3 x.f3.length x.f3:=by
 obtain⟨_,_,rfl,rfl,⟨_,_,rfl,rfl,⟨_,_,rfl,rfl,⟨A3,c3,rfl,B,Y⟩⟩⟩⟩:=h
 exact⟨A3,c3,rfl,B,Y⟩
structure S24 where
 f0:(List Int)
 f1:(List Int)
def k24:Kd S24:=Kd.iso (Kd.pair (Kd.slice 5 (Kd.int .u8)) (Kd.slice 5 (Kd.int .u8))) (fun x:S24=>(x.f0,x.f1))
theorem Mp {w:World} {x:S24} {cs:List Value} (h:k24.K w x cs):∃ A0 c0 A1 c1,cs = [.slice A0 x.f0.length c0,.slice A1 x.f1.length c1]∧x.f0.length≤c0∧(Kd.int .u8).C w A0 x.f0.length x.f0∧x.f1.length≤c1∧(Kd.int .u8).C w A1 x.f1.length x.f1:=by
 obtain⟨_,_,rfl,⟨A0,c0,rfl,l0,D⟩,⟨A1,c1,rfl,l1,X⟩⟩:=h
 exact⟨A0,c0,A1,c1,rfl,l0,D,l1,X⟩
def wire_code.f (J:Int):Option (Int):=if J<0 then (some (Go.bits .or .u64 (IntKind.u64.wrap ((IntKind.u64.wrap (Go.bits .xor .i64 (-1) J)) * 2)) 1)) else (some (IntKind.u64.wrap ((IntKind.u64.wrap (J)) * 2)))
set_option maxHeartbeats 8000000 in
set_option maxRecDepth 100000 in
theorem wire_code.calls (J:Int) (r:Int) (w:World) (h:wire_code.f J=some r):
  Calls Tryd.prog 41 #[.int .i64 J] w fun e w'=>e = .returned (.int .u64 r)∧Drawn0 w w':=by
 have H:(if J<0 then (some (Go.bits .or .u64 (IntKind.u64.wrap ((IntKind.u64.wrap (Go.bits .xor .i64 (-1) J)) * 2)) 1)) else (some (IntKind.u64.wrap ((IntKind.u64.wrap (J)) * 2))))=some r:=h
 clear h
 by_cases c2:J<0
 ·rw[if_pos c2] at H
  have c2b0:decide (J<0)=true:=decide_eq_true c2
  clear c2
  obtain rfl:=Option.some.inj H
  go_enter Tryd.func41,Tryd.ntmps41
  go_wp2
  go_ret
  exact⟨qR,by repeat(first|exact Drawn0.refl _|apply Drawn0.step)⟩
 ·rw[if_neg c2] at H
  have c2b0:decide (J<0)=false:=decide_eq_false c2
  clear c2
  obtain rfl:=Option.some.inj H
  go_enter Tryd.func41,Tryd.ntmps41
  go_wp2
  go_ret
  exact⟨qR,by repeat(first|exact Drawn0.refl _|apply Drawn0.step)⟩
mutual
def wire_read.l0:Nat→Int→List Int→Int→Int→Option (Int×Int×Int)
 |0,_,_,_,_=>none
 |k+1,I,X,B,D=>if D<B then (if 0≤D then (if D<(X.length:Int) then (if D=9 then (wire_read.j1 k I D (rd X D) X B D (decide ((rd X D)>1))) else (wire_read.j1 k I D (rd X D) X B D false)) else (none)) else (none)) else (some (0,0,0))
def wire_read.j1:Nat→Int→Int→Int→List Int→Int→Int→Bool→Option (Int×Int×Int)
 |0,_,_,_,_,_,_,_=>none
 |k+1,I,J,Y,X,B,D,O=>if O=true then (some (0,0,1)) else (if 0≤(wrap64 (7 * J)) then (if Y<128 then (if J>0 then (if Y=0 then (some (0,0,1)) else (some (Go.bits .or .u64 I (shl .u64 (IntKind.u64.wrap (Int.tmod Y 128)) (wrap64 (7 * J))),wrap64 (J+1),2))) else (some (Go.bits .or .u64 I (shl .u64 (IntKind.u64.wrap (Int.tmod Y 128)) (wrap64 (7 * J))),wrap64 (J+1),2))) else (wire_read.l0 k (Go.bits .or .u64 I (shl .u64 (IntKind.u64.wrap (Int.tmod Y 128)) (wrap64 (7 * J)))) X B (wrap64 (D+1)))) else (none))
end
def wire_read.f (k:Nat) (l0:List Int):Option (Int×Int×Int):=wire_read.l0 k 0 l0 (l0.length:Int) 0
theorem wire_read.Zl:∀ k,(∀ B I J U,LeO (wire_read.l0 k B I J U) (wire_read.l0 (k+1) B I J U))∧(∀ B I J U Y Z y6,LeO (wire_read.j1 k B I J U Y Z y6) (wire_read.j1 (k+1) B I J U Y Z y6))
 |0=>⟨fun _ _ _ _ r h=>by simp[wire_read.l0] at h,fun _ _ _ _ _ _ _ r h=>by simp[wire_read.j1] at h⟩
 |k+1=>by
  obtain⟨D,O⟩:=wire_read.Zl k
  refine⟨?_, ?_⟩
  ·intro B I J U
   unfold wire_read.l0
   repeat' first
   |(with_reducible exact D _ _ _ _)
   |(with_reducible exact O _ _ _ _ _ _ _)
   |(with_reducible exact LeO.refl _)
   |(with_reducible exact LeO.none _)
   |(with_reducible refine LeO.ite ?_ ?_)
   |(with_reducible refine LeO.bind ?_ (fun _=>?_))
   |exact D _ _ _ _
   |exact O _ _ _ _ _ _ _
   |exact LeO.none _
   |refine LeO.ite ?_ ?_
   |refine LeO.bind ?_ (fun _=>?_)
  ·intro B I J U Y Z y6
   unfold wire_read.j1
   repeat' first
   |(with_reducible exact D _ _ _ _)
   |(with_reducible exact O _ _ _ _ _ _ _)
   |(with_reducible exact LeO.refl _)
   |(with_reducible exact LeO.none _)
   |(with_reducible refine LeO.ite ?_ ?_)
   |(with_reducible refine LeO.bind ?_ (fun _=>?_))
   |exact D _ _ _ _
   |exact O _ _ _ _ _ _ _
   |exact LeO.none _
   |refine LeO.ite ?_ ?_
   |refine LeO.bind ?_ (fun _=>?_)
theorem wire_read.mono:∀ J k,LeO (wire_read.f k J) (wire_read.f (k+1) J):=by
 intro J k
 obtain⟨D,O⟩:=wire_read.Zl k
 unfold wire_read.f
 repeat' first
   |(with_reducible exact D _ _ _ _)
   |(with_reducible exact O _ _ _ _ _ _ _)
   |(with_reducible exact LeO.refl _)
   |(with_reducible exact LeO.none _)
   |(with_reducible refine LeO.ite ?_ ?_)
   |(with_reducible refine LeO.bind ?_ (fun _=>?_))
   |exact D _ _ _ _
   |exact O _ _ _ _ _ _ _
   |exact LeO.none _
   |refine LeO.ite ?_ ?_
   |refine LeO.bind ?_ (fun _=>?_)
set_option maxHeartbeats 8000000 in
set_option maxRecDepth 100000 in
theorem wire_read.calls (k:Nat) (A0:Option Addr) (c0:Nat) (l0:List Int) (r1:Int) (r2:Int) (r3:Int) (w:World) (ξ :Kd.C (Kd.int .u8) w A0 l0.length l0) (κ :l0.length≤c0) (h:wire_read.f k l0=some (r1,r2,r3)):
  Calls Tryd.prog 43 #[.slice A0 l0.length c0] w fun e w'=>e = .returned (.tuple #[.int .u64 r1,.int .i64 r2,.int .i64 r3])∧Drawn0 w w':=by
 have δ :=Aside0.mk ξ
 have ω :=Aside0.mk κ
 clear ξ κ
 have H:(wire_read.l0 k 0 l0 (l0.length:Int) 0)=some (r1,r2,r3):=h
 clear h
 have H':=Aside0.mk H
 clear H
 go_enter Tryd.func43,Tryd.ntmps43
 go_wp2
 go_loopg [5,10] k (fun kq v5 jt w'=>∃ (D:Int) (B:Int),v5 = .int .u64 D∧jt = .int .i64 B∧Aside0 (wire_read.l0 kq D l0 (l0.length:Int) B=some (r1,r2,r3))∧Aside0 (kq≤k)∧Drawn0 w w')
 case atStart=>exact⟨(0),(0),qR,qR,H',⟨Nat.le_refl _⟩,by repeat(first|exact Drawn0.refl _|apply Drawn0.step)⟩
 case round=>
  clear H'
  obtain⟨D,B,rfl,rfl,HA,Y,⟨m1,rfl⟩⟩:=hrel
  cases gk with
  |zero=>exact absurd HA.out (by simp[wire_read.l0])
  |succ k1=>
   have H:=HA.out
   clear HA
   simp only[wire_read.l0] at H
   by_cases c2:B<(l0.length:Int)
   ·rw[if_pos c2] at H
    have c2b0:decide (B<(l0.length:Int))=true:=decide_eq_true c2
    clear c2
    by_cases c3:0≤B
    ·rw[if_pos c3] at H
     have c3b0:decide (0≤B)=true:=decide_eq_true c3
     clear c3
     by_cases c4:B<(l0.length:Int)
     ·rw[if_pos c4] at H
      have c4b0:decide (B<(l0.length:Int))=true:=decide_eq_true c4
      clear c4
      have ν :=Aside0.mk H
      clear H
      have X:0≤(B:Int):=of_decide_eq_true (by first|(with_reducible assumption)|assumption)
      have Z:B<(l0.length:Int):=of_decide_eq_true (by first|(with_reducible assumption)|assumption)
      obtain⟨ι,ε,γ⟩:=Kd.Zr δ.out B X Z
      cases ε
      replace X:=eq_true X
      replace Z:=eq_true Z
      go_upto_region 5 with(fail)
      go_cut [20] (fun ζ wc=>∃ (kq:Nat) (U:Bool),ζ = .bool U∧Aside0 (wire_read.j1 kq D B (rd l0 B) l0 (l0.length:Int) B U=some (r1,r2,r3))∧Aside0 (kq≤k1)∧Drawn0 w wc)
      case first=>
       have H:= ν.out
       clear ν
       by_cases c6:B=9
       ·rw[if_pos c6] at H
        have c6b0:(B==9)=true:=beq_iff_eq.mpr c6
        have c6b1:(B != 9)=false:=bne_eq_false_iff_eq.mpr c6
        clear c6
        (first|rw[c6b0]|(simp only[Zu,Z4];rw[c6b0])|skip)
        have H':=Aside0.mk H
        clear H
        go_wp2
        go_meet
        case rel=>exact⟨_,(decide ((rd l0 B)>1)),qR,H',⟨by have:=Y.out;first|omega|exact Nat.le_refl _⟩,by repeat(first|exact Drawn0.refl _|apply Drawn0.step)⟩
       ·rw[if_neg c6] at H
        have c6b0:(B==9)=false:=beq_eq_false_iff_ne.mpr c6
        have c6b1:(B != 9)=true:=bne_iff_ne.mpr c6
        (first|rw[c6b0]|(simp only[Zu,Z4];rw[c6b0])|skip)
        have H':=Aside0.mk H
        clear H
        go_wp2
        go_meet
        case rel=>exact⟨_,(false),qR,H',⟨by have:=Y.out;first|omega|exact Nat.le_refl _⟩,by repeat(first|exact Drawn0.refl _|apply Drawn0.step)⟩
      case rest=>
       clear ν
       try clear p1
       try clear q1
       try clear cp
       try clear c2
       try clear c2b0
       try clear p2
       try clear c3
       try clear c3b0
       try clear c4
       try clear c4b0
       try clear c6
       try clear c6b0
       try clear c6b1
       try clear γ
       try clear X
       try clear Z
       obtain⟨kq,U,rfl,HA,ρ,⟨σ,rfl⟩⟩:=hcut
       cases kq with
       |zero=>exact absurd HA.out (by simp[wire_read.j1])
       |succ η =>
        have H:=HA.out
        clear HA
        simp only[wire_read.j1] at H
        by_cases c7:U=true
        ·subst c7
         have H1:(some (0,0,1))=some (r1,r2,r3):=by rw[if_pos rfl] at H;exact H
         clear H
         have H:=H1
         clear H1
         simp only[Option.some.injEq,Prod.mk.injEq] at H
         obtain⟨rfl,rfl,rfl⟩:=H
         go_wp2
         go_ret3
         exact⟨qR,by repeat(first|exact Drawn0.refl _|apply Drawn0.step)⟩
        ·replace c7:=Bool.eq_false_iff.mpr c7
         subst c7
         have H1:(if 0≤(wrap64 (7 * B)) then (if (rd l0 B)<128 then (if B>0 then (if (rd l0 B)=0 then (some (0,0,1)) else (some (Go.bits .or .u64 D (shl .u64 (IntKind.u64.wrap (Int.tmod (rd l0 B) 128)) (wrap64 (7 * B))),wrap64 (B+1),2))) else (some (Go.bits .or .u64 D (shl .u64 (IntKind.u64.wrap (Int.tmod (rd l0 B) 128)) (wrap64 (7 * B))),wrap64 (B+1),2))) else (wire_read.l0 η (Go.bits .or .u64 D (shl .u64 (IntKind.u64.wrap (Int.tmod (rd l0 B) 128)) (wrap64 (7 * B)))) l0 (l0.length:Int) (wrap64 (B+1)))) else (none))=some (r1,r2,r3):=by rw[if_neg (show ¬ (false=true) by decide)] at H;exact H
         clear H
         have H:=H1
         clear H1
         obtain⟨J,μ⟩:∃ j_:Int,(wrap64 (7 * B))=j_:=⟨_,rfl⟩
         replace H:(if 0≤(J) then (if (rd l0 B)<128 then (if B>0 then (if (rd l0 B)=0 then (some (0,0,1)) else (some (Go.bits .or .u64 D (shl .u64 (IntKind.u64.wrap (Int.tmod (rd l0 B) 128)) (J)),wrap64 (B+1),2))) else (some (Go.bits .or .u64 D (shl .u64 (IntKind.u64.wrap (Int.tmod (rd l0 B) 128)) (J)),wrap64 (B+1),2))) else (wire_read.l0 η (Go.bits .or .u64 D (shl .u64 (IntKind.u64.wrap (Int.tmod (rd l0 B) 128)) (J))) l0 (l0.length:Int) (wrap64 (B+1)))) else (none))=some (r1,r2,r3):=by first|(rw[μ] at H;exact H)|(simp only[μ] at H ⊢;exact H)
         have hji8w:(IntKind.i64.wrap (7 * B))=J:=(Zu _).trans μ
         by_cases c9:0≤(J)
         ·rw[if_pos c9] at H
          have c9b0:=eq_true c9
          have c9b1:decide (0≤(J))=true:=decide_eq_true c9
          clear c9
          obtain⟨O,I⟩:∃ j_:Int,(shl .u64 (IntKind.u64.wrap (Int.tmod (rd l0 B) 128)) (J))=j_:=⟨_,rfl⟩
          replace H:(if (rd l0 B)<128 then (if B>0 then (if (rd l0 B)=0 then (some (0,0,1)) else (some (Go.bits .or .u64 D (O),wrap64 (B+1),2))) else (some (Go.bits .or .u64 D (O),wrap64 (B+1),2))) else (wire_read.l0 η (Go.bits .or .u64 D (O)) l0 (l0.length:Int) (wrap64 (B+1))))=some (r1,r2,r3):=by first|(rw[I] at H;exact H)|(simp only[I] at H ⊢;exact H)
          have θ :(IntKind.u64.wrap ((IntKind.u64.wrap (Int.tmod (rd l0 B) 128)) * 2 ^ min (J).toNat 64))=O:=I
          have hji10z:(J)≤64→(IntKind.u64.wrap ((IntKind.u64.wrap (Int.tmod (rd l0 B) 128)) * 2 ^ (J).toNat))=O:=Wz I
          by_cases bf:(rd l0 B)<128
          ·rw[if_pos bf] at H
           have c11b0:decide ((rd l0 B)<128)=true:=decide_eq_true bf
           clear bf
           by_cases bl:B>0
           ·rw[if_pos bl] at H
            have c12b0:decide (0<B)=true:=decide_eq_true bl
            clear bl
            by_cases cq:(rd l0 B)=0
            ·rw[if_pos cq] at H
             have c13b0:((rd l0 B)==0)=true:=beq_iff_eq.mpr cq
             have c13b1:((rd l0 B) != 0)=false:=bne_eq_false_iff_eq.mpr cq
             clear cq
             simp only[Option.some.injEq,Prod.mk.injEq] at H
             obtain⟨rfl,rfl,rfl⟩:=H
             go_wp2
             go_ret3
             exact⟨by first|rfl|(simp;done)|(simp only[← μ,← I] <;> (first|rfl|simp))|(simp[*];done),by repeat(first|exact Drawn0.refl _|apply Drawn0.step)⟩
            ·rw[if_neg cq] at H
             have c13b0:((rd l0 B)==0)=false:=beq_eq_false_iff_ne.mpr cq
             have c13b1:((rd l0 B) != 0)=true:=bne_iff_ne.mpr cq
             simp only[Option.some.injEq,Prod.mk.injEq] at H
             obtain⟨rfl,rfl,rfl⟩:=H
             go_wp2
             go_ret3
             exact⟨by first|rfl|(simp;done)|(simp only[← μ,← I] <;> (first|rfl|simp))|(simp[*];done),by repeat(first|exact Drawn0.refl _|apply Drawn0.step)⟩
           ·rw[if_neg bl] at H
            have c12b0:decide (0<B)=false:=decide_eq_false bl
            clear bl
            simp only[Option.some.injEq,Prod.mk.injEq] at H
            obtain⟨rfl,rfl,rfl⟩:=H
            go_wp2
            go_ret3
            exact⟨by first|rfl|(simp;done)|(simp only[← μ,← I] <;> (first|rfl|simp))|(simp[*];done),by repeat(first|exact Drawn0.refl _|apply Drawn0.step)⟩
          ·rw[if_neg bf] at H
           have c11b0:decide ((rd l0 B)<128)=false:=decide_eq_false bf
           clear bf
           have H':=Aside0.mk H
           clear H
           go_wp2
           go_roundg η
           case measure=>have:=Y.out;have:=ρ.out;omega
           case rel=>exact⟨(Go.bits .or .u64 D (O)),(wrap64 (B+1)),(by first|rfl|(simp;done)|(simp only[← I] <;> (first|rfl|simp))|(simp[*];done)),qR,H',⟨by have:=Y.out;have:=ρ.out;omega⟩,by repeat(first|exact Drawn0.refl _|apply Drawn0.step)⟩
         ·rw[if_neg c9] at H
          exact absurd H (by simp)
     ·rw[if_neg c4] at H
      exact absurd H (by simp)
    ·rw[if_neg c3] at H
     exact absurd H (by simp)
   ·rw[if_neg c2] at H
    have c2b0:decide (B<(l0.length:Int))=false:=decide_eq_false c2
    clear c2
    simp only[Option.some.injEq,Prod.mk.injEq] at H
    obtain⟨rfl,rfl,rfl⟩:=H
    go_wp2
    go_ret3
    exact⟨qR,by repeat(first|exact Drawn0.refl _|apply Drawn0.step)⟩
def wire_Get.j0:Nat→List Int→Int→Bool→Option (Int×Int×Int)
 |0,_,_,_=>none
 |k+1,O,U,B=>if B=true then (some (0,0,80)) else (if 0≤U then (if U≤(O.length:Int) then ((wire_read.f k (O.drop (U:Int).toNat)).bind fun D=>(if D.2.2=0 then (some (0,0,81)) else (if D.2.2=1 then (some (0,0,82)) else (if (Go.bits .and .u64 D.1 1)=1 then (some (Go.bits .xor .i64 (-1) (wrap64 (D.1 / 2)),wrap64 (U+D.2.1),0)) else (some (wrap64 (D.1 / 2),wrap64 (U+D.2.1),0)))))) else (none)) else (none))
def wire_Get.f (k:Nat) (l0:List Int) (B:Int):Option (Int×Int×Int):=if B<0 then (wire_Get.j0 k l0 B true) else (wire_Get.j0 k l0 B (decide (B>(l0.length:Int))))
theorem wire_Get.Zl:∀ k,(∀ B I J,LeO (wire_Get.j0 k B I J) (wire_Get.j0 (k+1) B I J))
 |0=>fun _ _ _ r h=>by simp[wire_Get.j0] at h
 |k+1=>by
  have D:=wire_Get.Zl k
  ·intro B I J
   unfold wire_Get.j0
   repeat' first
   |(with_reducible exact D _ _ _)
   |(with_reducible exact wire_read.mono _ _)
   |(with_reducible exact LeO.refl _)
   |(with_reducible exact LeO.none _)
   |(with_reducible refine LeO.ite ?_ ?_)
   |(with_reducible refine LeO.bind ?_ (fun _=>?_))
   |exact D _ _ _
   |exact wire_read.mono _ _
   |exact LeO.none _
   |refine LeO.ite ?_ ?_
   |refine LeO.bind ?_ (fun _=>?_)
theorem wire_Get.mono:∀ J B k,LeO (wire_Get.f k J B) (wire_Get.f (k+1) J B):=by
 intro J B k
 have D:=wire_Get.Zl k
 unfold wire_Get.f
 repeat' first
   |(with_reducible exact D _ _ _)
   |(with_reducible exact wire_read.mono _ _)
   |(with_reducible exact LeO.refl _)
   |(with_reducible exact LeO.none _)
   |(with_reducible refine LeO.ite ?_ ?_)
   |(with_reducible refine LeO.bind ?_ (fun _=>?_))
   |exact D _ _ _
   |exact wire_read.mono _ _
   |exact LeO.none _
   |refine LeO.ite ?_ ?_
   |refine LeO.bind ?_ (fun _=>?_)
set_option maxHeartbeats 8000000 in
set_option maxRecDepth 100000 in
theorem wire_Get.calls (k:Nat) (A0:Option Addr) (c0:Nat) (l0:List Int) (B:Int) (r1:Int) (r2:Int) (r3:Int) (w:World) (ξ :Kd.C (Kd.int .u8) w A0 l0.length l0) (κ :l0.length≤c0) (h:wire_Get.f k l0 B=some (r1,r2,r3)):
  Calls Tryd.prog 32 #[.slice A0 l0.length c0,.int .i64 B] w fun e w'=>e = .returned (.tuple #[.int .i64 r1,.int .i64 r2,.int .i64 r3])∧Drawn0 w w':=by
 have δ :=Aside0.mk ξ
 have ω :=Aside0.mk κ
 clear ξ κ
 have H:(if B<0 then (wire_Get.j0 k l0 B true) else (wire_Get.j0 k l0 B (decide (B>(l0.length:Int)))))=some (r1,r2,r3):=h
 clear h
 have a5:=Aside0.mk H
 clear H
 go_enter Tryd.func32,Tryd.ntmps32
 go_upto_region 1 with(fail)
 go_cut [18] (fun a0 wc=>∃ (kq:Nat) (Y:Bool),a0 = .bool Y∧Aside0 (wire_Get.j0 kq l0 B Y=some (r1,r2,r3))∧Aside0 (kq≤k)∧Drawn0 w wc)
 case first=>
  have H:=a5.out
  clear a5
  by_cases c4:B<0
  ·rw[if_pos c4] at H
   have c4b0:decide (B<0)=true:=decide_eq_true c4
   clear c4
   (first|rw[c4b0]|(simp only[Zu,Z4];rw[c4b0])|skip)
   have H':=Aside0.mk H
   clear H
   go_wp2
   go_meet
   case rel=>exact⟨_,(true),qR,H',⟨by first|omega|exact Nat.le_refl _⟩,by repeat(first|exact Drawn0.refl _|apply Drawn0.step)⟩
  ·rw[if_neg c4] at H
   have c4b0:decide (B<0)=false:=decide_eq_false c4
   clear c4
   (first|rw[c4b0]|(simp only[Zu,Z4];rw[c4b0])|skip)
   have H':=Aside0.mk H
   clear H
   go_wp2
   go_meet
   case rel=>exact⟨_,(decide (B>(l0.length:Int))),qR,H',⟨by first|omega|exact Nat.le_refl _⟩,by repeat(first|exact Drawn0.refl _|apply Drawn0.step)⟩
 case rest=>
  clear a5
  try clear p2
  try clear c3
  try clear c4
  try clear c4b0
  obtain⟨kq,Y,rfl,HA,a8,⟨ag,rfl⟩⟩:=hcut
  cases kq with
  |zero=>exact absurd HA.out (by simp[wire_Get.j0])
  |succ ρ=>
   have H:=HA.out
   clear HA
   simp only[wire_Get.j0] at H
   by_cases c5:Y=true
   ·subst c5
    have H1:(some (0,0,80))=some (r1,r2,r3):=by rw[if_pos rfl] at H;exact H
    clear H
    have H:=H1
    clear H1
    simp only[Option.some.injEq,Prod.mk.injEq] at H
    obtain⟨rfl,rfl,rfl⟩:=H
    go_wp2
    go_ret3
    exact⟨qR,by repeat(first|exact Drawn0.refl _|apply Drawn0.step)⟩
   ·replace c5:=Bool.eq_false_iff.mpr c5
    subst c5
    have H1:(if 0≤B then (if B≤(l0.length:Int) then ((wire_read.f ρ (l0.drop (B:Int).toNat)).bind fun D=>(if D.2.2=0 then (some (0,0,81)) else (if D.2.2=1 then (some (0,0,82)) else (if (Go.bits .and .u64 D.1 1)=1 then (some (Go.bits .xor .i64 (-1) (wrap64 (D.1 / 2)),wrap64 (B+D.2.1),0)) else (some (wrap64 (D.1 / 2),wrap64 (B+D.2.1),0)))))) else (none)) else (none))=some (r1,r2,r3):=by rw[if_neg (show ¬ (false=true) by decide)] at H;exact H
    clear H
    have H:=H1
    clear H1
    by_cases c6:0≤B
    ·rw[if_pos c6] at H
     have c6b0:=eq_true c6
     have c6b1:decide (0≤B)=true:=decide_eq_true c6
     clear c6
     by_cases c7:B≤(l0.length:Int)
     ·rw[if_pos c7] at H
      have c7b0:=eq_true c7
      have c7b1:decide (B≤(l0.length:Int))=true:=decide_eq_true c7
      clear c7
      replace H:=Option.bind_eq_some_iff.mp H
      obtain⟨⟨J,X,I⟩,b9,H⟩:=H
      replace H:(if I=0 then (some (0,0,81)) else (if I=1 then (some (0,0,82)) else (if (Go.bits .and .u64 J 1)=1 then (some (Go.bits .xor .i64 (-1) (wrap64 (J / 2)),wrap64 (B+X),0)) else (some (wrap64 (J / 2),wrap64 (B+X),0)))))=some (r1,r2,r3):=H
      have A8:=Aside0.mk b9
      clear b9
      by_cases c9:I=0
      ·rw[if_pos c9] at H
       have c9b0:(I==0)=true:=beq_iff_eq.mpr c9
       have c9b1:(I != 0)=false:=bne_eq_false_iff_eq.mpr c9
       clear c9
       simp only[Option.some.injEq,Prod.mk.injEq] at H
       obtain⟨rfl,rfl,rfl⟩:=H
       obtain⟨aa,Z,_,γ,_⟩:=info_parts Zx
       obtain⟨bi,a2,ι,μ⟩:=X7 (P:=Tryd.prog) (Value.int .u8) 0 22 5 .i64 Tryd.underlying22 Z γ A0 c0 l0 B (of_decide_eq_true (by first|(with_reducible assumption)|assumption)) (of_decide_eq_true (by first|(with_reducible assumption)|assumption)) ω.out
       have O:=Aside0.mk (Kd.Z8 (h1:=fun _=>rfl) (ι _ (Kd.Zv δ.out)))
       have U:=Aside0.mk μ
       clear ι μ Z γ
       go_wp2_with (first|((with_reducible refine Qv (f:=43) rfl ?_);refine Ze (some 23) rfl rfl Tryd.func43 kr rfl #[.slice bi (l0.drop (B:Int).toNat).length (c0-B.toNat)] rfl (by(try simp only[List.map_toArray,List.map_cons,List.map_nil]);first|done|(rw[show(l0.drop (B:Int).toNat).length=(l0.length-B.toNat) from List.length_drop] <;> rfl)|rfl|(simp only[List.length_drop,List.length_take];rfl)) ?_;(with_reducible refine(wire_read.calls ρ _ _ (l0.drop (B:Int).toNat) J X I _ ?side1 ?side2 A8.out).mono ?_);(case side1=>repeat(first|exact O.out|(with_reducible refine Kd.Zc ?_ _)|(with_reducible refine Kd.Za ?_ _)|(with_reducible refine Kd.Zh ?_)));(case side2=>exact U.out);rintro e w' ⟨rfl,⟨nd,rfl⟩⟩;refine⟨_,rfl, ?_⟩))
       go_ret3
       exact⟨qR,by repeat(first|exact Drawn0.refl _|apply Drawn0.step)⟩
      ·rw[if_neg c9] at H
       have c9b0:(I==0)=false:=beq_eq_false_iff_ne.mpr c9
       have c9b1:(I != 0)=true:=bne_iff_ne.mpr c9
       by_cases bf:I=1
       ·rw[if_pos bf] at H
        have c11b0:(I==1)=true:=beq_iff_eq.mpr bf
        have c11b1:(I != 1)=false:=bne_eq_false_iff_eq.mpr bf
        clear bf
        simp only[Option.some.injEq,Prod.mk.injEq] at H
        obtain⟨rfl,rfl,rfl⟩:=H
        obtain⟨ab,ε,_,ζ,_⟩:=info_parts Zx
        obtain⟨χ,a4,ν,σ⟩:=X7 (P:=Tryd.prog) (Value.int .u8) 0 22 5 .i64 Tryd.underlying22 ε ζ A0 c0 l0 B (of_decide_eq_true (by first|(with_reducible assumption)|assumption)) (of_decide_eq_true (by first|(with_reducible assumption)|assumption)) ω.out
        have O:=Aside0.mk (Kd.Z8 (h1:=fun _=>rfl) (ν _ (Kd.Zv δ.out)))
        have U:=Aside0.mk σ
        clear ν σ ε ζ
        go_wp2_with (first|((with_reducible refine Qv (f:=43) rfl ?_);refine Ze (some 23) rfl rfl Tryd.func43 kr rfl #[.slice χ (l0.drop (B:Int).toNat).length (c0-B.toNat)] rfl (by(try simp only[List.map_toArray,List.map_cons,List.map_nil]);first|done|(rw[show(l0.drop (B:Int).toNat).length=(l0.length-B.toNat) from List.length_drop] <;> rfl)|rfl|(simp only[List.length_drop,List.length_take];rfl)) ?_;(with_reducible refine(wire_read.calls ρ _ _ (l0.drop (B:Int).toNat) J X I _ ?side1 ?side2 A8.out).mono ?_);(case side1=>repeat(first|exact O.out|(with_reducible refine Kd.Zc ?_ _)|(with_reducible refine Kd.Za ?_ _)|(with_reducible refine Kd.Zh ?_)));(case side2=>exact U.out);rintro e w' ⟨rfl,⟨nd,rfl⟩⟩;refine⟨_,rfl, ?_⟩))
        go_ret3
        exact⟨qR,by repeat(first|exact Drawn0.refl _|apply Drawn0.step)⟩
       ·rw[if_neg bf] at H
        have c11b0:(I==1)=false:=beq_eq_false_iff_ne.mpr bf
        have c11b1:(I != 1)=true:=bne_iff_ne.mpr bf
        by_cases cq:(Go.bits .and .u64 J 1)=1
        ·rw[if_pos cq] at H
         have c13b0:((Go.bits .and .u64 J 1)==1)=true:=beq_iff_eq.mpr cq
         have c13b1:((Go.bits .and .u64 J 1) != 1)=false:=bne_eq_false_iff_eq.mpr cq
         clear cq
         simp only[Option.some.injEq,Prod.mk.injEq] at H
         obtain⟨rfl,rfl,rfl⟩:=H
         obtain⟨af,η,_,θ,_⟩:=info_parts Zx
         obtain⟨a7,a9,τ,φ⟩:=X7 (P:=Tryd.prog) (Value.int .u8) 0 22 5 .i64 Tryd.underlying22 η θ A0 c0 l0 B (of_decide_eq_true (by first|(with_reducible assumption)|assumption)) (of_decide_eq_true (by first|(with_reducible assumption)|assumption)) ω.out
         have O:=Aside0.mk (Kd.Z8 (h1:=fun _=>rfl) (τ _ (Kd.Zv δ.out)))
         have U:=Aside0.mk φ
         clear τ φ η θ
         go_wp2_with (first|((with_reducible refine Qv (f:=43) rfl ?_);refine Ze (some 23) rfl rfl Tryd.func43 kr rfl #[.slice a7 (l0.drop (B:Int).toNat).length (c0-B.toNat)] rfl (by(try simp only[List.map_toArray,List.map_cons,List.map_nil]);first|done|(rw[show(l0.drop (B:Int).toNat).length=(l0.length-B.toNat) from List.length_drop] <;> rfl)|rfl|(simp only[List.length_drop,List.length_take];rfl)) ?_;(with_reducible refine(wire_read.calls ρ _ _ (l0.drop (B:Int).toNat) J X I _ ?side1 ?side2 A8.out).mono ?_);(case side1=>repeat(first|exact O.out|(with_reducible refine Kd.Zc ?_ _)|(with_reducible refine Kd.Za ?_ _)|(with_reducible refine Kd.Zh ?_)));(case side2=>exact U.out);rintro e w' ⟨rfl,⟨nd,rfl⟩⟩;refine⟨_,rfl, ?_⟩))
         go_ret3
         exact⟨qR,by repeat(first|exact Drawn0.refl _|apply Drawn0.step)⟩
        ·rw[if_neg cq] at H
         have c13b0:((Go.bits .and .u64 J 1)==1)=false:=beq_eq_false_iff_ne.mpr cq
         have c13b1:((Go.bits .and .u64 J 1) != 1)=true:=bne_iff_ne.mpr cq
         simp only[Option.some.injEq,Prod.mk.injEq] at H
         obtain⟨rfl,rfl,rfl⟩:=H
         obtain⟨ao,ψ,_,a3,_⟩:=info_parts Zx
         obtain⟨en,ac,ae,a6⟩:=X7 (P:=Tryd.prog) (Value.int .u8) 0 22 5 .i64 Tryd.underlying22 ψ a3 A0 c0 l0 B (of_decide_eq_true (by first|(with_reducible assumption)|assumption)) (of_decide_eq_true (by first|(with_reducible assumption)|assumption)) ω.out
         have O:=Aside0.mk (Kd.Z8 (h1:=fun _=>rfl) (ae _ (Kd.Zv δ.out)))
         have U:=Aside0.mk a6
         clear ae a6 ψ a3
         go_wp2_with (first|((with_reducible refine Qv (f:=43) rfl ?_);refine Ze (some 23) rfl rfl Tryd.func43 kr rfl #[.slice en (l0.drop (B:Int).toNat).length (c0-B.toNat)] rfl (by(try simp only[List.map_toArray,List.map_cons,List.map_nil]);first|done|(rw[show(l0.drop (B:Int).toNat).length=(l0.length-B.toNat) from List.length_drop] <;> rfl)|rfl|(simp only[List.length_drop,List.length_take];rfl)) ?_;(with_reducible refine(wire_read.calls ρ _ _ (l0.drop (B:Int).toNat) J X I _ ?side1 ?side2 A8.out).mono ?_);(case side1=>repeat(first|exact O.out|(with_reducible refine Kd.Zc ?_ _)|(with_reducible refine Kd.Za ?_ _)|(with_reducible refine Kd.Zh ?_)));(case side2=>exact U.out);rintro e w' ⟨rfl,⟨nd,rfl⟩⟩;refine⟨_,rfl, ?_⟩))
         go_ret3
         exact⟨qR,by repeat(first|exact Drawn0.refl _|apply Drawn0.step)⟩
     ·rw[if_neg c7] at H
      exact absurd H (by simp)
    ·rw[if_neg c6] at H
     exact absurd H (by simp)
mutual
def wire_GetRow.j0:Nat→List Int→Int→Int→Int→Bool→Option (List Int×Int×Int)
 |0,_,_,_,_,_=>none
 |k+1,O,B,D,J,I=>if I=true then (wire_GetRow.j1 k O B D 83) else (wire_GetRow.j1 k O B D J)
def wire_GetRow.j1:Nat→List Int→Int→Int→Int→Option (List Int×Int×Int)
 |0,_,_,_,_=>none
 |k+1,O,B,D,J=>wire_GetRow.l0 k O B D J ([]:List Int)
def wire_GetRow.l0:Nat→List Int→Int→Int→Int→List Int→Option (List Int×Int×Int)
 |0,_,_,_,_,_=>none
 |k+1,O,B,D,J,Y=>if J=0 then (if B>0 then ((wire_Get.f k O D).bind fun I=>(if Y.length<17592186044416 then (wire_GetRow.l0 k O (wrap64 (B-1)) I.2.1 I.2.2 (Y ++ [I.1])) else (none))) else (some (Y,D,0))) else (some (([]:List Int),0,J))
end
def wire_GetRow.f (k:Nat) (l0:List Int) (B:Int) (a2:Int):Option (List Int×Int×Int):=(wire_Get.f k l0 B).bind fun J=>(if J.2.2=0 then (if J.1<0 then (wire_GetRow.j0 k l0 J.1 J.2.1 J.2.2 true) else (wire_GetRow.j0 k l0 J.1 J.2.1 J.2.2 (decide (J.1>a2)))) else (wire_GetRow.j0 k l0 J.1 J.2.1 J.2.2 false))
theorem wire_GetRow.Zl:∀ k,(∀ B I J U Y,LeO (wire_GetRow.j0 k B I J U Y) (wire_GetRow.j0 (k+1) B I J U Y))∧(∀ B I J U,LeO (wire_GetRow.j1 k B I J U) (wire_GetRow.j1 (k+1) B I J U))∧(∀ B I J U Y,LeO (wire_GetRow.l0 k B I J U Y) (wire_GetRow.l0 (k+1) B I J U Y))
 |0=>⟨fun _ _ _ _ _ r h=>by simp[wire_GetRow.j0] at h,fun _ _ _ _ r h=>by simp[wire_GetRow.j1] at h,fun _ _ _ _ _ r h=>by simp[wire_GetRow.l0] at h⟩
 |k+1=>by
  obtain⟨D,O,X⟩:=wire_GetRow.Zl k
  refine⟨?_, ?_, ?_⟩
  ·intro B I J U Y
   unfold wire_GetRow.j0
   repeat' first
   |(with_reducible exact D _ _ _ _ _)
   |(with_reducible exact O _ _ _ _)
   |(with_reducible exact X _ _ _ _ _)
   |(with_reducible exact wire_Get.mono _ _ _)
   |(with_reducible exact LeO.refl _)
   |(with_reducible exact LeO.none _)
   |(with_reducible refine LeO.ite ?_ ?_)
   |(with_reducible refine LeO.bind ?_ (fun _=>?_))
   |exact D _ _ _ _ _
   |exact O _ _ _ _
   |exact X _ _ _ _ _
   |exact wire_Get.mono _ _ _
   |exact LeO.none _
   |refine LeO.ite ?_ ?_
   |refine LeO.bind ?_ (fun _=>?_)
  ·intro B I J U
   unfold wire_GetRow.j1
   repeat' first
   |(with_reducible exact D _ _ _ _ _)
   |(with_reducible exact O _ _ _ _)
   |(with_reducible exact X _ _ _ _ _)
   |(with_reducible exact wire_Get.mono _ _ _)
   |(with_reducible exact LeO.refl _)
   |(with_reducible exact LeO.none _)
   |(with_reducible refine LeO.ite ?_ ?_)
   |(with_reducible refine LeO.bind ?_ (fun _=>?_))
   |exact D _ _ _ _ _
   |exact O _ _ _ _
   |exact X _ _ _ _ _
   |exact wire_Get.mono _ _ _
   |exact LeO.none _
   |refine LeO.ite ?_ ?_
   |refine LeO.bind ?_ (fun _=>?_)
  ·intro B I J U Y
   unfold wire_GetRow.l0
   repeat' first
   |(with_reducible exact D _ _ _ _ _)
   |(with_reducible exact O _ _ _ _)
   |(with_reducible exact X _ _ _ _ _)
   |(with_reducible exact wire_Get.mono _ _ _)
   |(with_reducible exact LeO.refl _)
   |(with_reducible exact LeO.none _)
   |(with_reducible refine LeO.ite ?_ ?_)
   |(with_reducible refine LeO.bind ?_ (fun _=>?_))
   |exact D _ _ _ _ _
   |exact O _ _ _ _
   |exact X _ _ _ _ _
   |exact wire_Get.mono _ _ _
   |exact LeO.none _
   |refine LeO.ite ?_ ?_
   |refine LeO.bind ?_ (fun _=>?_)
theorem wire_GetRow.mono:∀ J B a2 k,LeO (wire_GetRow.f k J B a2) (wire_GetRow.f (k+1) J B a2):=by
 intro J B a2 k
 obtain⟨D,O,X⟩:=wire_GetRow.Zl k
 unfold wire_GetRow.f
 repeat' first
   |(with_reducible exact D _ _ _ _ _)
   |(with_reducible exact O _ _ _ _)
   |(with_reducible exact X _ _ _ _ _)
   |(with_reducible exact wire_Get.mono _ _ _)
   |(with_reducible exact LeO.refl _)
   |(with_reducible exact LeO.none _)
   |(with_reducible refine LeO.ite ?_ ?_)
   |(with_reducible refine LeO.bind ?_ (fun _=>?_))
   |exact D _ _ _ _ _
   |exact O _ _ _ _
   |exact X _ _ _ _ _
   |exact wire_Get.mono _ _ _
   |exact LeO.none _
   |refine LeO.ite ?_ ?_
   |refine LeO.bind ?_ (fun _=>?_)
set_option maxHeartbeats 8000000 in
set_option maxRecDepth 100000 in
theorem wire_GetRow.calls (k:Nat) (A0:Option Addr) (c0:Nat) (l0:List Int) (B:Int) (a2:Int) (r1:List Int) (r2:Int) (r3:Int) (w:World) (ξ :Kd.C (Kd.int .u8) w A0 l0.length l0) (κ :l0.length≤c0) (h:wire_GetRow.f k l0 B a2=some (r1,r2,r3)):
  Calls Tryd.prog 31 #[.slice A0 l0.length c0,.int .i64 B,.int .i64 a2] w fun e w'=>∃ ak:Value,e = .returned (.tuple #[ak,.int .i64 r2,.int .i64 r3])∧Kd.R (Kd.int .i64) 3 w' w.heap.size (fun _=>True) ak r1∧Below w.heap.size w w':=by
 have δ :=Aside0.mk ξ
 have ω :=Aside0.mk κ
 clear ξ κ
 have HB:=Aside0.mk (Below.refl w.heap.size w)
 have H:((wire_Get.f k l0 B).bind fun J=>(if J.2.2=0 then (if J.1<0 then (wire_GetRow.j0 k l0 J.1 J.2.1 J.2.2 true) else (wire_GetRow.j0 k l0 J.1 J.2.1 J.2.2 (decide (J.1>a2)))) else (wire_GetRow.j0 k l0 J.1 J.2.1 J.2.2 false)))=some (r1,r2,r3):=h
 clear h
 replace H:=Option.bind_eq_some_iff.mp H
 obtain⟨⟨O,Z,U⟩,e9,H⟩:=H
 replace H:(if U=0 then (if O<0 then (wire_GetRow.j0 k l0 O Z U true) else (wire_GetRow.j0 k l0 O Z U (decide (O>a2)))) else (wire_GetRow.j0 k l0 O Z U false))=some (r1,r2,r3):=H
 have A4:=Aside0.mk e9
 clear e9
 have ν :=Aside0.mk H
 clear H
 go_enter Tryd.func31,Tryd.ntmps31
 go_upto_region 2 with(first|((with_reducible refine Qv (f:=32) rfl ?_);refine Ze (some 17) rfl rfl Tryd.func32 kr rfl #[.slice A0 l0.length c0,.int .i64 B] rfl (by(try simp only[List.map_toArray,List.map_cons,List.map_nil]);first|done|rfl|(simp only[List.length_drop,List.length_take];rfl)) ?_;(with_reducible refine(wire_Get.calls k _ _ l0 B O Z U _ ?side1 ?side2 A4.out).mono ?_);(case side1=>repeat(first|exact δ.out|(with_reducible refine Kd.Zc ?_ _)|(with_reducible refine Kd.Za ?_ _)|(with_reducible refine Kd.Zh ?_)));(case side2=>exact ω.out);rintro e w' ⟨rfl,⟨nd,rfl⟩⟩;refine⟨_,rfl, ?_⟩))
 (try simp only[Act.put,qS])
 go_cut [31] (fun aa wc=>∃ (kq:Nat) (θ :Bool),aa = .bool θ ∧ Aside0 (wire_GetRow.j0 kq l0 O Z U θ = some (r1,r2,r3))∧Aside0 (kq≤k)∧Aside0 (Below w.heap.size w wc))
 case first=>
  have H:= ν.out
  clear ν
  by_cases c6:U=0
  ·rw[if_pos c6] at H
   have c6b0:(U==0)=true:=beq_iff_eq.mpr c6
   have c6b1:(U != 0)=false:=bne_eq_false_iff_eq.mpr c6
   clear c6
   (first|rw[c6b0]|(simp only[Zu,Z4];rw[c6b0])|skip)
   by_cases c7:O<0
   ·rw[if_pos c7] at H
    have c7b0:decide (O<0)=true:=decide_eq_true c7
    clear c7
    have H':=Aside0.mk H
    clear H
    go_wp2
    go_meet
    case rel=>exact⟨_,(true),qR,H',⟨by first|omega|exact Nat.le_refl _⟩,⟨by repeat(first|(with_reducible first|exact HB.out|apply Qe|apply Qa|apply Qf)|exact HB.out)⟩⟩
   ·rw[if_neg c7] at H
    have c7b0:decide (O<0)=false:=decide_eq_false c7
    clear c7
    have H':=Aside0.mk H
    clear H
    go_wp2
    go_meet
    case rel=>exact⟨_,(decide (O>a2)),qR,H',⟨by first|omega|exact Nat.le_refl _⟩,⟨by repeat(first|(with_reducible first|exact HB.out|apply Qe|apply Qa|apply Qf)|exact HB.out)⟩⟩
  ·rw[if_neg c6] at H
   have c6b0:(U==0)=false:=beq_eq_false_iff_ne.mpr c6
   have c6b1:(U != 0)=true:=bne_iff_ne.mpr c6
   (first|rw[c6b0]|(simp only[Zu,Z4];rw[c6b0])|skip)
   have H':=Aside0.mk H
   clear H
   go_wp2
   go_meet
   case rel=>exact⟨_,(false),qR,H',⟨by first|omega|exact Nat.le_refl _⟩,⟨by repeat(first|(with_reducible first|exact HB.out|apply Qe|apply Qa|apply Qf)|exact HB.out)⟩⟩
 case rest=>
  clear ν
  try clear p2
  try clear c3
  try clear c6
  try clear c6b0
  try clear c6b1
  try clear c7
  try clear c7b0
  obtain⟨kq,θ,rfl,HA,ρ,HB⟩:=hcut
  cases kq with
  |zero=>exact absurd HA.out (by simp[wire_GetRow.j0])
  |succ η =>
   have H:=HA.out
   clear HA
   simp only[wire_GetRow.j0] at H
   have a0:=Aside0.mk H
   clear H
   go_upto_if 31 with(fail)
   go_cut [11] (fun ψ wc=>∃ (kq:Nat) (ι :Int),ψ = .int .i64 ι ∧ Aside0 (wire_GetRow.j1 kq l0 O Z ι = some (r1,r2,r3))∧Aside0 (kq ≤ η)∧Aside0 (Below w.heap.size w wc))
   case first=>
    have H:=a0.out
    clear a0
    by_cases c9: θ = true
    ·subst c9
     have H1:(wire_GetRow.j1 η l0 O Z 83)=some (r1,r2,r3):=by rw[if_pos rfl] at H;exact H
     clear H
     have H:=H1
     clear H1
     have H':=Aside0.mk H
     clear H
     go_wp2
     go_meet
     case rel=>exact⟨_,(83),qR,H',⟨by have:=ρ.out;first|omega|exact Nat.le_refl _⟩,⟨by repeat(first|(with_reducible first|exact HB.out|apply Qe|apply Qa|apply Qf)|exact HB.out)⟩⟩
    ·replace c9:=Bool.eq_false_iff.mpr c9
     subst c9
     have H1:(wire_GetRow.j1 η l0 O Z U)=some (r1,r2,r3):=by rw[if_neg (show ¬ (false=true) by decide)] at H;exact H
     clear H
     have H:=H1
     clear H1
     have H':=Aside0.mk H
     clear H
     go_wp2
     go_meet
     case rel=>exact⟨_,(U),qR,H',⟨by have:=ρ.out;first|omega|exact Nat.le_refl _⟩,⟨by repeat(first|(with_reducible first|exact HB.out|apply Qe|apply Qa|apply Qf)|exact HB.out)⟩⟩
   case rest=>
    clear a0
    try clear p2
    try clear c3
    try clear c6
    try clear c6b0
    try clear c6b1
    try clear c7
    try clear c7b0
    try clear c9
    try clear p2
    obtain⟨kq,ι,rfl,HA,a7,HB⟩:=hcut
    cases kq with
    |zero=>exact absurd HA.out (by simp[wire_GetRow.j1])
    |succ a8=>
     have H:=HA.out
     clear HA
     simp only[wire_GetRow.j1] at H
     have H':=Aside0.mk H
     clear H
     go_wp2
     go_loopg [9,10,11,12] a8 (fun kq v9 jt ψ ab w'=>∃ (γ:Int) (ε :Int) (X:Int) (Y:List Int),v9 = .int .i64 γ∧jt = .int .i64 ε ∧ ψ = .int .i64 X∧Aside0 (wire_GetRow.l0 kq l0 γ ε X Y=some (r1,r2,r3))∧Aside0 (kq≤a8)∧Aside0 (Kd.R (Kd.int .i64) 3 w' w.heap.size (fun _=>True) ab Y)∧Aside0 (Below w.heap.size w w'))
     case atStart=>exact⟨(O),(Z),(ι),(([]:List Int)),qR,qR,qR,H',⟨Nat.le_refl _⟩,⟨by first|exact Kd.Z1 _ _ _ _ _|exact Kd.X4 _ _ _ _ _|exact Kd.X1 _ _ _ _ _|exact Kd.X3 _ _ _ _ _|exact Kd.X2 _ _ _ _ _⟩,⟨by repeat(first|(with_reducible first|exact HB.out|apply Qe|apply Qa|apply Qf)|exact HB.out)⟩⟩
     case round=>
      clear H'
      try clear p2
      try clear c3
      try clear c6
      try clear c6b0
      try clear c6b1
      try clear c7
      try clear c7b0
      try clear c9
      try clear p2
      obtain⟨γ,ε,X,Y,rfl,rfl,rfl,HA,a9,HO_12,HB⟩:=hrel
      cases gk with
      |zero=>exact absurd HA.out (by simp[wire_GetRow.l0])
      |succ k3=>
       have H:=HA.out
       clear HA
       simp only[wire_GetRow.l0] at H
       by_cases c10:X=0
       ·rw[if_pos c10] at H
        have c10b0:(X==0)=true:=beq_iff_eq.mpr c10
        have c10b1:(X != 0)=false:=bne_eq_false_iff_eq.mpr c10
        clear c10
        by_cases bf:γ>0
        ·rw[if_pos bf] at H
         have c11b0:decide (0<γ)=true:=decide_eq_true bf
         clear bf
         replace H:=Option.bind_eq_some_iff.mp H
         obtain⟨⟨μ,σ,τ⟩,n0,H⟩:=H
         replace H:(if Y.length<17592186044416 then (wire_GetRow.l0 k3 l0 (wrap64 (γ-1)) σ τ (Y ++ [μ])) else (none))=some (r1,r2,r3):=H
         have χ :=Aside0.mk n0
         clear n0
         by_cases cq:Y.length<17592186044416
         ·rw[if_pos cq] at H
          have a4:=Aside0.mk cq
          clear cq
          obtain⟨a3,ζ⟩:∃ y_:List Int,y_=(Y ++ [μ]):=⟨_,rfl⟩
          replace H:(wire_GetRow.l0 k3 l0 (wrap64 (γ-1)) σ τ a3)=some (r1,r2,r3):=by first|(rw[ζ];with_reducible exact H)|(have φ :=(Option.bind_some _ _).symm.trans H;rw[ζ];with_reducible exact φ)|(have φ :=(Option.bind_some _ _).symm.trans H;with_reducible exact φ)|with_reducible exact H|(rw[ζ];exact H)|exact H
          have a5:=Aside0.mk ζ
          clear ζ
          have H':=Aside0.mk H
          clear H
          go_wp2_with (first|((with_reducible refine Qv (f:=32) rfl ?_);refine Ze (some 43) rfl rfl Tryd.func32 kr rfl #[.slice A0 l0.length c0,.int .i64 ε] rfl (by(try simp only[List.map_toArray,List.map_cons,List.map_nil]);first|done|rfl|(simp only[List.length_drop,List.length_take];rfl)) ?_;(with_reducible refine(wire_Get.calls k3 _ _ l0 ε μ σ τ _ ?side1 ?side2 χ.out).mono ?_);(case side1=>repeat(first|exact(Kd.Zb δ.out HB.out)|(with_reducible refine Kd.Zc ?_ _)|(with_reducible refine Kd.Za ?_ _)|(with_reducible refine Kd.Zh ?_)));(case side2=>exact ω.out);rintro e w' ⟨rfl,⟨nd,rfl⟩⟩;refine⟨_,rfl, ?_⟩)|((with_reducible refine Zs (b:=.append) (xs:=#[.tmp 47,.tmp 49]) rfl ?_);at_builtin;refine Kd.Kf (Kd.int .i64) (w0:=w) w.heap.size rfl (.tmp 47) (.tmp 49) 52 3 (.int .i64 0) 8 rfl Tryd.underlying52 El rfl (by decide) (by omega) ae Y μ [.int .i64 μ] (fun _=>True) (fun _=>False) rfl rfl ?aP (fun _ hk=>hk.elim) ?aF ?aO ?aB ?aS ?aL ?_;(case aP=>exact rfl);(case aB=>exact(by repeat(first|(with_reducible first|exact HB.out|apply Qe|apply Qa|apply Qf)|exact HB.out)));(case aF=>exact(fun _ _=>trivial));(case aO=>exact(by(with_reducible repeat first|apply Kd.Qi|apply Kd.Qh|apply Kd.Ql);exact HO_12.out));(case aS=>exact(Qj (by repeat(first|(with_reducible first|exact HB.out|apply Qe|apply Qa|apply Qf)|exact HB.out))));(case aL=>have:=a4.out;omega);intro ac gy ho hb hg hat;rw[← a5.out] at ho;have D:=Aside0.mk (hb);have I:=Aside0.mk (ho);clear HB;clear HO_12;have HB:=D;have a6:=I;clear D I;clear ho hb hg hat))
          go_roundg k3
          case measure=>have:=ρ.out;have:=a7.out;have:=a9.out;omega
          case rel=>exact⟨(wrap64 (γ-1)),(σ),(τ),(a3),qR,qR,qR,H',⟨by have:=ρ.out;have:=a7.out;have:=a9.out;omega⟩,⟨by(with_reducible repeat first|apply Kd.Qi|apply Kd.Qh|apply Kd.Ql);exact a6.out⟩,⟨by repeat(first|(with_reducible first|exact HB.out|apply Qe|apply Qa|apply Qf)|exact HB.out)⟩⟩
         ·rw[if_neg cq] at H
          exact absurd H (by simp)
        ·rw[if_neg bf] at H
         have c11b0:decide (0<γ)=false:=decide_eq_false bf
         clear bf
         simp only[Option.some.injEq,Prod.mk.injEq] at H
         obtain⟨rfl,rfl,rfl⟩:=H
         go_wp2
         go_ret3
         exact⟨_,by first|rfl|(simp[Qo,Qn] <;> rfl)|(simp[*,Qo,Qn] <;> rfl),by(with_reducible repeat first|apply Kd.Qi|apply Kd.Qh|apply Kd.Ql);exact HO_12.out,by repeat(first|(with_reducible first|exact HB.out|apply Qe|apply Qa|apply Qf)|exact HB.out)⟩
       ·rw[if_neg c10] at H
        have c10b0:(X==0)=false:=beq_eq_false_iff_ne.mpr c10
        have c10b1:(X != 0)=true:=bne_iff_ne.mpr c10
        simp only[Option.some.injEq,Prod.mk.injEq] at H
        obtain⟨rfl,rfl,rfl⟩:=H
        go_wp2
        go_ret3
        exact⟨_,by first|rfl|(simp[Qo,Qn] <;> rfl)|(simp[*,Qo,Qn] <;> rfl),by first|exact Kd.Z1 _ _ _ _ _|exact Kd.X4 _ _ _ _ _|exact Kd.X1 _ _ _ _ _|exact Kd.X3 _ _ _ _ _|exact Kd.X2 _ _ _ _ _,by repeat(first|(with_reducible first|exact HB.out|apply Qe|apply Qa|apply Qf)|exact HB.out)⟩
def newelref08_Same.l0:Nat→List Int→List Int→Int→Option (Bool)
 |0,_,_,_=>none
 |k+1,O,U,I=>if I<(O.length:Int) then (if 0≤I then (if I<(U.length:Int) then (if (rd O I)=(rd U I) then (newelref08_Same.l0 k O U (wrap64 (I+1))) else (some false)) else (none)) else (none)) else (some true)
def newelref08_Same.f (k:Nat) (l0:List Int) (l1:List Int):Option (Bool):=if (l0.length:Int)=(l1.length:Int) then (newelref08_Same.l0 k l0 l1 0) else (some false)
theorem newelref08_Same.Zl:∀ k,(∀ B I J,LeO (newelref08_Same.l0 k B I J) (newelref08_Same.l0 (k+1) B I J))
 |0=>fun _ _ _ r h=>by simp[newelref08_Same.l0] at h
 |k+1=>by
  have D:=newelref08_Same.Zl k
  ·intro B I J
   unfold newelref08_Same.l0
   repeat' first
   |(with_reducible exact D _ _ _)
   |(with_reducible exact LeO.refl _)
   |(with_reducible exact LeO.none _)
   |(with_reducible refine LeO.ite ?_ ?_)
   |(with_reducible refine LeO.bind ?_ (fun _=>?_))
   |exact D _ _ _
   |exact LeO.none _
   |refine LeO.ite ?_ ?_
   |refine LeO.bind ?_ (fun _=>?_)
theorem newelref08_Same.mono:∀ J B k,LeO (newelref08_Same.f k J B) (newelref08_Same.f (k+1) J B):=by
 intro J B k
 have D:=newelref08_Same.Zl k
 unfold newelref08_Same.f
 repeat' first
   |(with_reducible exact D _ _ _)
   |(with_reducible exact LeO.refl _)
   |(with_reducible exact LeO.none _)
   |(with_reducible refine LeO.ite ?_ ?_)
   |(with_reducible refine LeO.bind ?_ (fun _=>?_))
   |exact D _ _ _
   |exact LeO.none _
   |refine LeO.ite ?_ ?_
   |refine LeO.bind ?_ (fun _=>?_)
set_option maxHeartbeats 8000000 in
set_option maxRecDepth 100000 in
theorem newelref08_Same.calls (k:Nat) (A0:Option Addr) (c0:Nat) (l0:List Int) (A1:Option Addr) (c1:Nat) (l1:List Int) (r:Bool) (w:World) (ξ :Kd.C (Kd.int .u8) w A0 l0.length l0) (κ :l0.length≤c0) (O:Kd.C (Kd.int .u8) w A1 l1.length l1) (I:l1.length≤c1) (h:newelref08_Same.f k l0 l1=some r):
  Calls Tryd.prog 17 #[.slice A0 l0.length c0,.slice A1 l1.length c1] w fun e w'=>e = .returned (.bool r)∧Drawn0 w w':=by
 have δ :=Aside0.mk ξ
 have ω :=Aside0.mk κ
 clear ξ κ
 have ε :=Aside0.mk O
 have ι :=Aside0.mk I
 clear O I
 have H:(if (l0.length:Int)=(l1.length:Int) then (newelref08_Same.l0 k l0 l1 0) else (some false))=some r:=h
 clear h
 by_cases c3:(l0.length:Int)=(l1.length:Int)
 ·rw[if_pos c3] at H
  have c3b0:((l0.length:Int)==(l1.length:Int))=true:=beq_iff_eq.mpr c3
  have c3b1:((l0.length:Int) != (l1.length:Int))=false:=bne_eq_false_iff_eq.mpr c3
  have c3b2:(l0.length==l1.length)=true:=by first|simpa using c3|(simp at c3 ⊢;omega)
  clear c3
  have H':=Aside0.mk H
  clear H
  go_enter Tryd.func17,Tryd.ntmps17
  go_wp2
  repeat(go_quiet (fail);try go_wp2)
  go_loopg [5] k (fun kq v5 w'=>∃ (D:Int),v5 = .int .i64 D∧Aside0 (newelref08_Same.l0 kq l0 l1 D=some r)∧Aside0 (kq≤k)∧Drawn0 w w')
  case atStart=>exact⟨(0),qR,H',⟨Nat.le_refl _⟩,by repeat(first|exact Drawn0.refl _|apply Drawn0.step)⟩
  case round=>
   clear H'
   try clear c1
   try clear p2
   try clear c3
   try clear c3b0
   try clear c3b1
   try clear c3b2
   obtain⟨D,rfl,HA,Y,⟨m1,rfl⟩⟩:=hrel
   cases gk with
   |zero=>exact absurd HA.out (by simp[newelref08_Same.l0])
   |succ k1=>
    have H:=HA.out
    clear HA
    simp only[newelref08_Same.l0] at H
    by_cases c4:D<(l0.length:Int)
    ·rw[if_pos c4] at H
     have c4b0:decide (D<(l0.length:Int))=true:=decide_eq_true c4
     clear c4
     by_cases c5:0≤D
     ·rw[if_pos c5] at H
      have c5b0:decide (0≤D)=true:=decide_eq_true c5
      clear c5
      by_cases c6:D<(l1.length:Int)
      ·rw[if_pos c6] at H
       have c6b0:decide (D<(l1.length:Int))=true:=decide_eq_true c6
       clear c6
       by_cases c7:(rd l0 D)=(rd l1 D)
       ·rw[if_pos c7] at H
        have c7b0:((rd l0 D)==(rd l1 D))=true:=beq_iff_eq.mpr c7
        have c7b1:((rd l0 D) != (rd l1 D))=false:=bne_eq_false_iff_eq.mpr c7
        clear c7
        have H':=Aside0.mk H
        clear H
        have B:0≤(D:Int):=of_decide_eq_true (by first|(with_reducible assumption)|assumption)
        have J:D<(l0.length:Int):=of_decide_eq_true (by first|(with_reducible assumption)|assumption)
        obtain⟨θ,Z,ζ⟩:=Kd.Zr δ.out D B J
        cases Z
        replace B:=eq_true B
        replace J:=eq_true J
        have U:0≤(D:Int):=of_decide_eq_true (by first|(with_reducible assumption)|assumption)
        have X:D<(l1.length:Int):=of_decide_eq_true (by first|(with_reducible assumption)|assumption)
        obtain⟨μ,γ,η⟩:=Kd.Zr ε.out D U X
        cases γ
        replace U:=eq_true U
        replace X:=eq_true X
        go_wp2
        repeat(go_quiet (fail);try go_wp2)
        go_roundg k1
        case measure=>have:=Y.out;omega
        case rel=>exact⟨(wrap64 (D+1)),qR,H',⟨by have:=Y.out;omega⟩,by repeat(first|exact Drawn0.refl _|apply Drawn0.step)⟩
       ·rw[if_neg c7] at H
        have c7b0:((rd l0 D)==(rd l1 D))=false:=beq_eq_false_iff_ne.mpr c7
        have c7b1:((rd l0 D) != (rd l1 D))=true:=bne_iff_ne.mpr c7
        obtain rfl:=Option.some.inj H
        have B:0≤(D:Int):=of_decide_eq_true (by first|(with_reducible assumption)|assumption)
        have J:D<(l0.length:Int):=of_decide_eq_true (by first|(with_reducible assumption)|assumption)
        obtain⟨θ,Z,ζ⟩:=Kd.Zr δ.out D B J
        cases Z
        replace B:=eq_true B
        replace J:=eq_true J
        have U:0≤(D:Int):=of_decide_eq_true (by first|(with_reducible assumption)|assumption)
        have X:D<(l1.length:Int):=of_decide_eq_true (by first|(with_reducible assumption)|assumption)
        obtain⟨μ,γ,η⟩:=Kd.Zr ε.out D U X
        cases γ
        replace U:=eq_true U
        replace X:=eq_true X
        go_wp2
        repeat(go_quiet (fail);try go_wp2)
        go_ret
        exact⟨qR,by repeat(first|exact Drawn0.refl _|apply Drawn0.step)⟩
      ·rw[if_neg c6] at H
       exact absurd H (by simp)
     ·rw[if_neg c5] at H
      exact absurd H (by simp)
    ·rw[if_neg c4] at H
     have c4b0:decide (D<(l0.length:Int))=false:=decide_eq_false c4
     clear c4
     obtain rfl:=Option.some.inj H
     go_wp2
     repeat(go_quiet (fail);try go_wp2)
     go_ret
     exact⟨qR,by repeat(first|exact Drawn0.refl _|apply Drawn0.step)⟩
 ·rw[if_neg c3] at H
  have c3b0:((l0.length:Int)==(l1.length:Int))=false:=beq_eq_false_iff_ne.mpr c3
  have c3b1:((l0.length:Int) != (l1.length:Int))=true:=bne_iff_ne.mpr c3
  have c3b2:(l0.length==l1.length)=false:=by first|simpa using c3|(simp at c3 ⊢;omega)
  obtain rfl:=Option.some.inj H
  go_enter Tryd.func17,Tryd.ntmps17
  go_wp2
  repeat(go_quiet (fail);try go_wp2)
  go_ret
  exact⟨qR,by repeat(first|exact Drawn0.refl _|apply Drawn0.step)⟩
def flash_may.f (J:Int) (Y:Int) (X:Int) (B:List Int):Option (Bool):=if J≥1 then (if J≤1099511627776 then (if X≥0 then (if X≤5 then (some (decide ((B.length:Int)≤4096))) else (some false)) else (some false)) else (some false)) else (some false)
set_option maxHeartbeats 8000000 in
set_option maxRecDepth 100000 in
theorem flash_may.calls (J:Int) (Y:Int) (X:Int) (Z:Option Addr) (γ:Nat) (B:List Int) (r:Bool) (w:World) (ι :Kd.C (Kd.int .u8) w Z B.length B) (ξ :B.length≤γ) (h:flash_may.f J Y X B=some r):
  Calls Tryd.prog 27 #[.agg #[.int .i64 J,.int .i64 Y,.int .i64 X,.slice Z B.length γ]] w fun e w'=>e = .returned (.bool r)∧Below w.heap.size w w':=by
 have dz:=Tryd.underlying26
 have ω :=Aside0.mk ι
 have a0:=Aside0.mk ξ
 clear ι ξ
 have HB:=Aside0.mk (Below.refl w.heap.size w)
 have H:(if J≥1 then (if J≤1099511627776 then (if X≥0 then (if X≤5 then (some (decide ((B.length:Int)≤4096))) else (some false)) else (some false)) else (some false)) else (some false))=some r:=h
 clear h
 by_cases c2:J≥1
 ·rw[if_pos c2] at H
  have c2b0:decide (1≤J)=true:=decide_eq_true c2
  clear c2
  by_cases c3:J≤1099511627776
  ·rw[if_pos c3] at H
   have c3b0:decide (J≤1099511627776)=true:=decide_eq_true c3
   clear c3
   by_cases c4:X≥0
   ·rw[if_pos c4] at H
    have c4b0:decide (0≤X)=true:=decide_eq_true c4
    clear c4
    by_cases c5:X≤5
    ·rw[if_pos c5] at H
     have c5b0:decide (X≤5)=true:=decide_eq_true c5
     clear c5
     obtain rfl:=Option.some.inj H
     go_enter Tryd.func27,Tryd.ntmps27
     go_wp2_with (first|((with_reducible refine Qz (N:=1) rfl ?_);(try(refine Zw (by rfl) ?_;dsimp only));refine Q7 ?hg (N:=1) ?hd (cs:=#[.int .i64 J,.int .i64 Y,.int .i64 X,.slice Z B.length γ]) (t:=26) ?hr ?_;(case hd=>rfl);(case hg=>rfl);(case hr=>first|(go_simp;done)|(go_simp;rfl));intro δ hg w6 hbox hb;have D:=Aside0.mk (Qr (by repeat(first|(with_reducible first|exact HB.out|apply Qe|apply Qa|apply Qf)|exact HB.out)) hb);have I:=Aside0.mk (hbox);have O:=Aside0.mk ((by rw[hg];exact(Qj (by repeat(first|(with_reducible first|exact HB.out|apply Qe|apply Qa|apply Qf)|exact HB.out))):w.heap.size ≤ δ));have U:=Aside0.mk ((by rw[hg];exact(Qj (by repeat(first|(with_reducible first|exact HB.out|apply Qe|apply Qa|apply Qf)|exact HB.out))):w.heap.size ≤ δ));clear HB;have HB:=D;have ε :=I;have η :=O;have ζ :=U;clear D I O U;clear hb hbox hg;obtain⟨σ,τ,φ,θ,χ,ψ,a2,κ⟩:=qD4 ε.out))
     go_ret
     exact⟨by first|rfl|(simp[Qo,Qn] <;> rfl)|(simp[*,Qo,Qn] <;> rfl),by repeat(first|(with_reducible first|exact HB.out|apply Qe|apply Qa|apply Qf|refine Qg ?_ ζ.out)|exact HB.out)⟩
    ·rw[if_neg c5] at H
     have c5b0:decide (X≤5)=false:=decide_eq_false c5
     clear c5
     obtain rfl:=Option.some.inj H
     go_enter Tryd.func27,Tryd.ntmps27
     go_wp2_with (first|((with_reducible refine Qz (N:=1) rfl ?_);(try(refine Zw (by rfl) ?_;dsimp only));refine Q7 ?hg (N:=1) ?hd (cs:=#[.int .i64 J,.int .i64 Y,.int .i64 X,.slice Z B.length γ]) (t:=26) ?hr ?_;(case hd=>rfl);(case hg=>rfl);(case hr=>first|(go_simp;done)|(go_simp;rfl));intro δ hg w8 hbox hb;have D:=Aside0.mk (Qr (by repeat(first|(with_reducible first|exact HB.out|apply Qe|apply Qa|apply Qf)|exact HB.out)) hb);have I:=Aside0.mk (hbox);have O:=Aside0.mk ((by rw[hg];exact(Qj (by repeat(first|(with_reducible first|exact HB.out|apply Qe|apply Qa|apply Qf)|exact HB.out))):w.heap.size ≤ δ));have U:=Aside0.mk ((by rw[hg];exact(Qj (by repeat(first|(with_reducible first|exact HB.out|apply Qe|apply Qa|apply Qf)|exact HB.out))):w.heap.size ≤ δ));clear HB;have HB:=D;have ε :=I;have η :=O;have ζ :=U;clear D I O U;clear hb hbox hg;obtain⟨μ,ν,ρ,a1,a6,a7,ac,ak⟩:=qD4 ε.out))
     go_ret
     exact⟨by first|rfl|(simp[Qo,Qn] <;> rfl)|(simp[*,Qo,Qn] <;> rfl),by repeat(first|(with_reducible first|exact HB.out|apply Qe|apply Qa|apply Qf|refine Qg ?_ ζ.out)|exact HB.out)⟩
   ·rw[if_neg c4] at H
    have c4b0:decide (0≤X)=false:=decide_eq_false c4
    clear c4
    obtain rfl:=Option.some.inj H
    go_enter Tryd.func27,Tryd.ntmps27
    go_wp2_with (first|((with_reducible refine Qz (N:=1) rfl ?_);(try(refine Zw (by rfl) ?_;dsimp only));refine Q7 ?hg (N:=1) ?hd (cs:=#[.int .i64 J,.int .i64 Y,.int .i64 X,.slice Z B.length γ]) (t:=26) ?hr ?_;(case hd=>rfl);(case hg=>rfl);(case hr=>first|(go_simp;done)|(go_simp;rfl));intro δ hg gh hbox hb;have D:=Aside0.mk (Qr (by repeat(first|(with_reducible first|exact HB.out|apply Qe|apply Qa|apply Qf)|exact HB.out)) hb);have I:=Aside0.mk (hbox);have O:=Aside0.mk ((by rw[hg];exact(Qj (by repeat(first|(with_reducible first|exact HB.out|apply Qe|apply Qa|apply Qf)|exact HB.out))):w.heap.size ≤ δ));have U:=Aside0.mk ((by rw[hg];exact(Qj (by repeat(first|(with_reducible first|exact HB.out|apply Qe|apply Qa|apply Qf)|exact HB.out))):w.heap.size ≤ δ));clear HB;have HB:=D;have ε :=I;have η :=O;have ζ :=U;clear D I O U;clear hb hbox hg;obtain⟨ae,af,ag,a3,ah,ai,aj,a4⟩:=qD4 ε.out))
    go_ret
    exact⟨by first|rfl|(simp[Qo,Qn] <;> rfl)|(simp[*,Qo,Qn] <;> rfl),by repeat(first|(with_reducible first|exact HB.out|apply Qe|apply Qa|apply Qf|refine Qg ?_ ζ.out)|exact HB.out)⟩
  ·rw[if_neg c3] at H
   have c3b0:decide (J≤1099511627776)=false:=decide_eq_false c3
   clear c3
   obtain rfl:=Option.some.inj H
   go_enter Tryd.func27,Tryd.ntmps27
   go_wp2_with (first|((with_reducible refine Qz (N:=1) rfl ?_);(try(refine Zw (by rfl) ?_;dsimp only));refine Q7 ?hg (N:=1) ?hd (cs:=#[.int .i64 J,.int .i64 Y,.int .i64 X,.slice Z B.length γ]) (t:=26) ?hr ?_;(case hd=>rfl);(case hg=>rfl);(case hr=>first|(go_simp;done)|(go_simp;rfl));intro δ hg a9 hbox hb;have D:=Aside0.mk (Qr (by repeat(first|(with_reducible first|exact HB.out|apply Qe|apply Qa|apply Qf)|exact HB.out)) hb);have I:=Aside0.mk (hbox);have O:=Aside0.mk ((by rw[hg];exact(Qj (by repeat(first|(with_reducible first|exact HB.out|apply Qe|apply Qa|apply Qf)|exact HB.out))):w.heap.size ≤ δ));have U:=Aside0.mk ((by rw[hg];exact(Qj (by repeat(first|(with_reducible first|exact HB.out|apply Qe|apply Qa|apply Qf)|exact HB.out))):w.heap.size ≤ δ));clear HB;have HB:=D;have ε :=I;have η :=O;have ζ :=U;clear D I O U;clear hb hbox hg;obtain⟨b7,b9,ba,bc,bg,bh,bi,bj⟩:=qD4 ε.out))
   go_ret
   exact⟨by first|rfl|(simp[Qo,Qn] <;> rfl)|(simp[*,Qo,Qn] <;> rfl),by repeat(first|(with_reducible first|exact HB.out|apply Qe|apply Qa|apply Qf|refine Qg ?_ ζ.out)|exact HB.out)⟩
 ·rw[if_neg c2] at H
  have c2b0:decide (1≤J)=false:=decide_eq_false c2
  clear c2
  obtain rfl:=Option.some.inj H
  go_enter Tryd.func27,Tryd.ntmps27
  go_wp2_with (first|((with_reducible refine Qz (N:=1) rfl ?_);(try(refine Zw (by rfl) ?_;dsimp only));refine Q7 ?hg (N:=1) ?hd (cs:=#[.int .i64 J,.int .i64 Y,.int .i64 X,.slice Z B.length γ]) (t:=26) ?hr ?_;(case hd=>rfl);(case hg=>rfl);(case hr=>first|(go_simp;done)|(go_simp;rfl));intro δ hg gy hbox hb;have D:=Aside0.mk (Qr (by repeat(first|(with_reducible first|exact HB.out|apply Qe|apply Qa|apply Qf)|exact HB.out)) hb);have I:=Aside0.mk (hbox);have O:=Aside0.mk ((by rw[hg];exact(Qj (by repeat(first|(with_reducible first|exact HB.out|apply Qe|apply Qa|apply Qf)|exact HB.out))):w.heap.size ≤ δ));have U:=Aside0.mk ((by rw[hg];exact(Qj (by repeat(first|(with_reducible first|exact HB.out|apply Qe|apply Qa|apply Qf)|exact HB.out))):w.heap.size ≤ δ));clear HB;have HB:=D;have ε :=I;have η :=O;have ζ :=U;clear D I O U;clear hb hbox hg;obtain⟨br,bs,a5,a8,bu,bv,aa,ab⟩:=qD4 ε.out))
  go_ret
  exact⟨by first|rfl|(simp[Qo,Qn] <;> rfl)|(simp[*,Qo,Qn] <;> rfl),by repeat(first|(with_reducible first|exact HB.out|apply Qe|apply Qa|apply Qf|refine Qg ?_ ζ.out)|exact HB.out)⟩
end Go.Proofs.YtickbejailcehaaDoor.C
namespace Go.Proofs.YtickbejailcehaaDoor.C
open Go.RowKit Go.Proofs.YtickbejailcehaaDoorW.PrintWords Go.Proofs.YtickbejailcehaaDoorW.PrintLast Go.Proofs.YtickbejailcehaaDoorW.PrintMore
set_option linter.unusedVariables false
def Ky {α:Type} (ys xs:List α):List α:=ys.take (min ys.length xs.length)++xs.drop (min ys.length xs.length)
open Kd in
theorem Mz {P:Program} {α:Type} {enc:α→Value} {h1:∀ x,(enc x).oneCell'=true} (d:α) {W:World} (base:Nat) (t t' e ty:TypeId) (ht:P.underlying t=some (.slice e)) (hinfo:(P.info? e).map (·.size)=some 1)
    (v:Value) (xs ys:List α) (A:Option Addr) (m c:Nat) (ok:Nat→Prop) (HO:(Kd.scalar enc h1).R e W base ok v xs) (HR:(Kd.scalar enc h1).C W A m ys):
    ∃ w1,(Builtin.copy_ #[t,t'] ty #[v,.slice A m c]).run P W = .ok (goInt ((min m xs.length:Nat):Int)) w1∧(Kd.scalar enc h1).R e w1 base ok v (ys.take (min m xs.length)++xs.drop (min m xs.length))∧W.grownBy w1 v.ownBlock:=by
  have hR:=Zv (enc:=enc) (d:=d) (h1:=h1) HR
  have hm:ys.length=m:=hR.1
  have hown:=Gl HO
  rcases Nat.eq_zero_or_pos (min m xs.length) with I|hp
  · obtain⟨A',c',hv⟩:=Kn hown
    refine⟨W, ?_,(by rw[I,List.take_zero,List.drop_zero,List.nil_append];exact HO),(World.grownBy.refl W _)⟩
    rw[I,hv]
    exact run_copy_none W t t' ty e A' A xs.length c' m c ht hinfo I
  · obtain⟨ad,hA,hc⟩:=hR.2.2 (by omega)
    rcases hown.2 with⟨_,D⟩|⟨g,cap,cur,hv,hb,hh,hnc,hcm,hcs,htake⟩
    · omega
    have U:cur.size=cap:=by omega
    have hsrc:∀ j u,(encs enc (ys.take (min m xs.length)))[j]?=some u→W.cell? (ad.add j)=some u:=by
      intro j u hu
      have hj:j<(ys.take (min m xs.length)).length:=by
        rcases Nat.lt_or_ge j (ys.take (min m xs.length)).length with h|h
        · exact h
        · rw[List.getElem?_eq_none (by rw[Xp];exact h)] at hu
          cases hu
      have hjm:j<min m xs.length:=by rw[List.length_take] at hj;omega
      rw[Ue (d:=d) _ j hj] at hu
      rw[hc j (by omega),← hu]
      simp[List.getD_eq_getElem?_getD,hjm]
    have hkl:(encs enc (ys.take (min m xs.length))).length=min m xs.length:=by rw[Xp,List.length_take];omega
    have hr:=run_copy_cells (P:=P) W t t' ty e g 0 xs.length cap ad m c (encs enc (ys.take (min m xs.length))) ht hinfo (by rw[hkl]) hsrc
      (fun j hj=>by rw[cell_of_row W g _ cur e (0,0) hh];simp;omega) (fun j _=>Q6 hh _) (by intro u hu;simp only[encs,List.mem_map] at hu;obtain⟨q,_,rfl⟩:=hu;exact h1 q)
    obtain⟨cur',O,X,J⟩:=Y6 (encs enc (ys.take (min m xs.length))) 0 W cur hh (by rw[hkl];omega)
    obtain⟨s1,s2,s3,B⟩:=Y3 g (encs enc (ys.take (min m xs.length))) 0 W
    refine⟨_,(by rw[hv,hA,hr,hkl]),Ke (h1:=h1) ?_ HO.1,s1,s2,s3,by rw[B];exact Nat.le_refl _,fun k _ hk=>Y7 _ _ k (fun he=>hk (by rw[hv,he];simp[Value.ownBlock]))⟩
    have hln:(ys.take (min m xs.length)++xs.drop (min m xs.length)).length=xs.length:=by
      rw[List.length_append,List.length_take,List.length_drop]
      omega
    rw[hln]
    refine⟨by rw[Xp,hln,Nat.mul_one],.inr ⟨g,cap,cur',hv,hb,O,hnc,hcm,by rw[X,hcs], ?_⟩⟩
    rw[J,List.take_zero,List.nil_append,hkl,Nat.zero_add,Kx,Nat.mul_one]
    rw[List.take_append,hkl,List.take_of_length_le (by rw[hkl];omega)]
    congr 1
    have htk:cur.toList.take xs.length=encs enc xs:=by rw[← htake,Nat.mul_one]
    have hd:encs enc (xs.drop (min m xs.length))=(encs enc xs).drop (min m xs.length):=by simp[encs,List.map_drop]
    rw[hd,← htk,List.drop_take]
theorem Lh {P:Program} {α:Type} {enc:α→Value} {h1:∀ x,(enc x).oneCell'=true} (d:α) {w0 W:World} {ops:Array Oper} {o:Oper} {a:Act} {Kc:Act→World→Prop} {Q:Exit→Act→World→Prop} (base:Nat) (hw:Region.wanted o (yielded ops a.tmps)=true) (s x:Operand) (t t' e:TypeId)
    (ho:o.op = .call {callee:=.builtin .copy,args:=#[s,x],argTypes:=#[t,t']}) (ht:P.underlying t=some (.slice e)) (hinfo:(P.info? e).map (·.size)=some 1)
    (v:Value) (xs ys:List α) (A:Option Addr) (m c:Nat) (ok:Nat→Prop) (hs:a.eval s=v) (hx:a.eval x = .slice A m c)
    (HO:(Kd.scalar enc h1).R e W base ok v xs) (HR:(Kd.scalar enc h1).C W A m ys) (HB:Below base w0 W) (hbase:base≤W.heap.size)
    (h:∀ w1,(Kd.scalar enc h1).R e w1 base ok v (ys.take (min m xs.length)++xs.drop (min m xs.length))→Below base w0 w1→W.grownBy w1 v.ownBlock→Kc (a.put o.dst (.int .i64 ((min m xs.length:Nat):Int))) w1):
    if Region.wanted o (yielded ops a.tmps)=true then Oper.wp P o a W Kc Q else Kc (a.put o.dst undef) W:=by
  obtain⟨w1,hr,hR,hg⟩:=Mz (P:=P) d base t t' e o.type ht hinfo v xs ys A m c ok HO HR
  rw[if_pos hw]
  unfold Oper.wp execOp
  simp only[ho,resolve,invoke,builtin,Sem.run_bind,Sem.run_pure,Result.andThen_ok,List.map_toArray,List.map_cons,List.map_nil,hs,hx,hr]
  exact h w1 hR (HB.grown hg hbase (Yn (Kd.Gl HO))) hg
theorem U4 {P:Program} {w0 W:World} {ops:Array Oper} {o:Oper} {a:Act} {Kc:Act→World→Prop} {Q:Exit→Act→World→Prop} (base:Nat) (hw:Region.wanted o (yielded ops a.tmps)=true) (s x:Operand) (t t' e:TypeId)
    (ho:o.op = .call {callee:=.builtin .copy,args:=#[s,x],argTypes:=#[t,t']}) (ht:P.underlying t=some (.slice e)) (hinfo:(P.info? e).map (·.size)=some 1)
    (v:Value) (xs ys:List Int) (A:Option Addr) (c:Nat) (ok:Nat→Prop) (hs:a.eval s=v) (hx:a.eval x = .slice A ys.length c)
    (HO:(Kd.int .u8).R e W base ok v xs) (HR:(Kd.int .u8).C W A ys.length ys) (HB:Below base w0 W) (hbase:base≤W.heap.size)
    (h:∀ w1,(Kd.int .u8).R e w1 base ok v (Ky ys xs)→Below base w0 w1→W.grownBy w1 v.ownBlock→Kc (a.put o.dst (.int .i64 ((min ys.length xs.length:Nat):Int))) w1):
    if Region.wanted o (yielded ops a.tmps)=true then Oper.wp P o a W Kc Q else Kc (a.put o.dst undef) W:=by
  refine Lh (enc:=Value.int .u8) (h1:=fun _=>rfl) (0:Int) base hw s x t t' e ho ht hinfo v xs ys A ys.length c ok hs hx HO HR HB hbase ?_
  intro w1 h1 D O
  refine h w1 ?_ D O
  unfold Ky
  exact h1
def Xi (c:Bool) (a b:List Int):List Int:=if c=true then a else b
def pickF (c:Bool):Value:=match c with|true=>.func (.func 23) #[] #[]|false=>.func (.func 22) #[] #[]
theorem K7 (A:Option Addr) (n m c:Nat):(Value.slice A n c).ownBlock=(Value.slice A m c).ownBlock:=by cases A <;> rfl
section
variable {P : Program} {ops : Array Oper} {Q : Exit → Act → World → Prop}
theorem Mt {oi:Oper} {N:Option Tmp} {a:Act} {w:World} {K:Act→World→Prop} {f:FuncId} {fn:Func} {x:Operand} {xs:Array Operand} {ts:Array TypeId} (hf:P.funcs[f]?=some fn) (hname:(fn.name == "runtime.NumGoroutine")=false) (hb:fn.body.isSome=true) (args:Array Value)
    (hw:Region.wanted oi (yielded ops a.tmps)=true) (hN:oi.dst=N) (hop:oi.op = .call {callee:=.value x,args:=xs,argTypes:=ts}) (hx:a.eval x = .func (.func f) #[] #[]) (hargs:xs.map a.eval=args)
    (h:Calls P f args w fun e w'=>∃ v,e = .returned v∧K (a.put N v) w'):if Region.wanted oi (yielded ops a.tmps)=true then Oper.wp P oi a w K Q else K (a.put N undef) w:=by
  refine Em f args hw hN ?_ h
  have he:=Vj hf hname hb args w
  unfold execOp
  simp[hop,hx,resolve,Deferred.ofValue,invoke,hargs,he]
end
set_option maxRecDepth 100000 in
theorem V0 (g:Nat) (w:World):Calls Tryd.prog 23 #[.pointer (some ⟨g,0,none⟩)] w fun e w'=>e = .returned (.pointer (some ⟨g,0,none⟩))∧w'=w:=by
  go_enter Tryd.func23,Tryd.ntmps23
  go_wp2
  go_ret
  exact⟨rfl,rfl⟩
set_option maxRecDepth 100000 in
theorem Vz (g:Nat) (w:World):Calls Tryd.prog 22 #[.pointer (some ⟨g,0,none⟩)] w fun e w'=>e = .returned (.pointer (some ⟨g,1,none⟩))∧w'=w:=by
  go_enter Tryd.func22,Tryd.ntmps22
  go_wp2
  go_ret
  exact⟨rfl,rfl⟩
end Go.Proofs.YtickbejailcehaaDoor.C
set_option linter.unusedVariables false
namespace Go.Proofs.YtickbejailcehaaDoor.C
open Go.RowKit Go.Proofs.YtickbejailcehaaDoorW.PrintWords Go.Proofs.YtickbejailcehaaDoorW.PrintLast Go.Proofs.YtickbejailcehaaDoorW.PrintMore
theorem bel {B:Nat} {w W:World} (h:Below B w W:=by repeat(first|(with_reducible first|exact HB.out|apply Qe|apply Qa|apply Qf|refine Qg ?_ (Aside0.out (by assumption)))|exact HB.out|(refine Qg ?_ (Aside0.out (by assumption))))):Below B w W:=h
theorem bka {w W:World} {g:Nat} {o:Obj} (b:Aside0 (w.heap[g]?=some o)) (e:W.heap[g]?=some o:=by(with_reducible repeat(first|refine Qb ?_ _|refine Qd ?_|refine Qc ?_ _|refine Qs ?_ (Aside0.out (by assumption)) _));exact Aside0.out (by assumption)):W.heap[g]?=some o:=e
theorem sRb {α:Type} {d:Kd α} {e0:TypeId} {w w1 w2:World} {base:Nat} {ok:Nat→Prop} {v:Value} {xs:List α} (b:Aside0 (d.R e0 w base ok v xs)) (h:Below w1.heap.size w1 w2) (e:d.R e0 w1 base ok v xs:=by(with_reducible repeat first|apply Kd.Qi|apply Kd.Qh|apply Kd.Ql);exact Aside0.out (by assumption)):Aside0 (d.R e0 w2 base ok v xs):=⟨Kd.Q1 e h⟩
theorem sBk {w w1 w2:World} {g:Nat} {o:Obj} (b:Aside0 (w.heap[g]?=some o)) (h:Below w1.heap.size w1 w2) (e:w1.heap[g]?=some o:=by(with_reducible repeat(first|refine Qb ?_ _|refine Qd ?_|refine Qc ?_ _|refine Qs ?_ (Aside0.out (by assumption)) _));exact Aside0.out (by assumption)):Aside0 (w2.heap[g]?=some o):=⟨Qp e h⟩
theorem sHb {w W w2:World} (h:Below W.heap.size W w2) (b:Below w.heap.size w W:=by repeat(first|(with_reducible first|exact HB.out|apply Qe|apply Qa|apply Qf|refine Qg ?_ (Aside0.out (by assumption)))|exact HB.out|(refine Qg ?_ (Aside0.out (by assumption))))):Aside0 (Below w.heap.size w w2):=⟨Qr b h⟩
theorem sGe {w W:World} {g:Nat} (h:g=W.heap.size) (b:Below w.heap.size w W:=by repeat(first|(with_reducible first|exact HB.out|apply Qe|apply Qa|apply Qf|refine Qg ?_ (Aside0.out (by assumption)))|exact HB.out|(refine Qg ?_ (Aside0.out (by assumption))))):Aside0 (w.heap.size≤g):=⟨by rw[h];exact Qj b⟩
theorem sNl {w W:World} {g k:Nat} {o:Obj} (b:Aside0 (w.heap[g]?=some o)) (h:k=W.heap.size) (e:W.heap[g]?=some o:=by(with_reducible repeat(first|refine Qb ?_ _|refine Qd ?_|refine Qc ?_ _|refine Qs ?_ (Aside0.out (by assumption)) _));exact Aside0.out (by assumption)):Aside0 (g≠k):=⟨by rw[h];exact Nat.ne_of_lt (Q8 e)⟩
theorem sNg {w W:World} {g k:Nat} {o:Obj} (b:Aside0 (w.heap[g]?=some o)) (h:k=W.heap.size) (e:W.heap[g]?=some o:=by(with_reducible repeat(first|refine Qb ?_ _|refine Qd ?_|refine Qc ?_ _|refine Qs ?_ (Aside0.out (by assumption)) _));exact Aside0.out (by assumption)):Aside0 (k≠g):=⟨by rw[h];exact Nat.ne_of_gt (Q8 e)⟩
def bN (n m:Nat):Array Bool:=((List.range n).map fun i=>m.testBit i).toArray
end Go.Proofs.YtickbejailcehaaDoor.C
namespace Go.Proofs.YtickbejailcehaaDoor.C
open Go.RowKit Go.Proofs.YtickbejailcehaaDoorW.PrintWords Go.Proofs.YtickbejailcehaaDoorW.PrintLast Go.Proofs.YtickbejailcehaaDoorW.PrintMore
attribute [local go_sem] Xm Xk X0 Xz Xc Xb Xl Xj
set_option linter.unusedVariables false
set_option linter.unusedSimpArgs false
def newelref12_Same.f (k:Nat) (J:Int) (Y:Int) (X:Int) (B:List Int) (ζ :Int) (κ :Int) (μ :Int) (η :List Int):Option (Bool):=if J = ζ then (if Y = κ then (if X = μ then ((newelref08_Same.f k B η).bind fun a2=>(some a2)) else (some false)) else (some false)) else (some false)
theorem newelref12_Same.mono:∀ J B a2 I U Y Z D k,LeO (newelref12_Same.f k J B a2 I U Y Z D) (newelref12_Same.f (k+1) J B a2 I U Y Z D):=by
 intro J B a2 I U Y Z D k
 unfold newelref12_Same.f
 repeat' first
   |(with_reducible exact newelref08_Same.mono _ _ _)
   |(with_reducible exact LeO.refl _)
   |(with_reducible exact LeO.none _)
   |(with_reducible refine LeO.ite ?_ ?_)
   |(with_reducible refine LeO.bind ?_ (fun _=>?_))
   |exact newelref08_Same.mono _ _ _
   |exact LeO.none _
   |refine LeO.ite ?_ ?_
   |refine LeO.bind ?_ (fun _=>?_)
set_option maxHeartbeats 8000000 in
set_option maxRecDepth 100000 in
theorem newelref12_Same.calls (k:Nat) (J:Int) (Y:Int) (X:Int) (Z:Option Addr) (γ:Nat) (B:List Int) (ζ :Int) (κ :Int) (μ :Int) (a6:Option Addr) (a7:Nat) (η :List Int) (r:Bool) (w:World) (ι :Kd.C (Kd.int .u8) w Z B.length B) (ξ :B.length≤γ) (db:Kd.C (Kd.int .u8) w a6 η.length η) (dc: η.length≤a7) (h:newelref12_Same.f k J Y X B ζ κ μ η = some r):
  Calls Tryd.prog 16 #[.agg #[.int .i64 J,.int .i64 Y,.int .i64 X,.slice Z B.length γ],.agg #[.int .i64 ζ,.int .i64 κ,.int .i64 μ,.slice a6 η.length a7]] w fun e w'=>e = .returned (.bool r)∧Below w.heap.size w w':=by
 have dz:=Tryd.underlying26
 have ω :=Aside0.mk ι
 have a0:=Aside0.mk ξ
 clear ι ξ
 have d5:=Aside0.mk db
 have d6:=Aside0.mk dc
 clear db dc
 have HB:=Aside0.mk (Below.refl w.heap.size w)
 have H:(if J = ζ then (if Y = κ then (if X = μ then ((newelref08_Same.f k B η).bind fun a2=>(some a2)) else (some false)) else (some false)) else (some false))=some r:=h
 clear h
 by_cases c3:J = ζ
 ·rw[if_pos c3] at H
  have c3b0:(J == ζ)=true:=beq_iff_eq.mpr c3
  have c3b1:(J != ζ)=false:=bne_eq_false_iff_eq.mpr c3
  clear c3
  by_cases c4:Y = κ
  ·rw[if_pos c4] at H
   have c4b0:(Y == κ)=true:=beq_iff_eq.mpr c4
   have c4b1:(Y != κ)=false:=bne_eq_false_iff_eq.mpr c4
   clear c4
   by_cases c5:X = μ
   ·rw[if_pos c5] at H
    have c5b0:(X == μ)=true:=beq_iff_eq.mpr c5
    have c5b1:(X != μ)=false:=bne_eq_false_iff_eq.mpr c5
    clear c5
    replace H:=Option.bind_eq_some_iff.mp H
    obtain⟨a2,bq,H⟩:=H
    replace H:(some a2)=some r:=H
    have A6:=Aside0.mk bq
    clear bq
    obtain rfl:=Option.some.inj H
    go_enter Tryd.func16,Tryd.ntmps16
    go_wp2_with (first|((with_reducible refine Qz (N:=2) rfl ?_);refine Q7 ?hg (N:=2) ?hd (cs:=#[.int .i64 J,.int .i64 Y,.int .i64 X,.slice Z B.length γ]) (t:=26) ?hr ?_;(case hd=>rfl);(case hg=>rfl);(case hr=>first|(go_simp;done)|(go_simp;rfl));intro δ hg w7 hbox hb;have D:=Aside0.mk (Qr (by repeat(first|(with_reducible first|exact HB.out|apply Qe|apply Qa|apply Qf)|exact HB.out)) hb);have I:=Aside0.mk (hbox);have O:=Aside0.mk ((by rw[hg];exact(Qj (by repeat(first|(with_reducible first|exact HB.out|apply Qe|apply Qa|apply Qf)|exact HB.out))):w.heap.size ≤ δ));have U:=Aside0.mk ((by rw[hg];exact(Qj (by repeat(first|(with_reducible first|exact HB.out|apply Qe|apply Qa|apply Qf)|exact HB.out))):w.heap.size ≤ δ));clear HB;have HB:=D;have θ :=I;have ak:=O;have σ:=U;clear D I O U;clear hb hbox hg)|((with_reducible refine Qz (N:=3) rfl ?_);refine Q7 ?hg (N:=3) ?hd (cs:=#[.int .i64 ζ,.int .i64 κ,.int .i64 μ,.slice a6 η.length a7]) (t:=26) ?hr ?_;(case hd=>rfl);(case hg=>rfl);(case hr=>first|(go_simp;done)|(go_simp;rfl));intro τ hg w8 hbox hb;have D:=Aside0.mk (Qp (g:= δ) (o:=.cells #[.int .i64 J,.int .i64 Y,.int .i64 X,.slice Z B.length γ] 26 (0,0)) (by(with_reducible repeat first|apply Qb|apply Qd|apply Qc);exact θ.out) hb);have I:=Aside0.mk (Qr (by repeat(first|(with_reducible first|exact HB.out|apply Qe|apply Qa|apply Qf|refine Qg ?_ σ.out)|exact HB.out)) hb);have O:=Aside0.mk (hbox);have U:=Aside0.mk ((by rw[hg];exact(Qj (by repeat(first|(with_reducible first|exact HB.out|apply Qe|apply Qa|apply Qf|refine Qg ?_ σ.out)|exact HB.out))):w.heap.size ≤ τ));have ε :=Aside0.mk ((by rw[hg];exact(Qj (by repeat(first|(with_reducible first|exact HB.out|apply Qe|apply Qa|apply Qf|refine Qg ?_ σ.out)|exact HB.out))):w.heap.size ≤ τ));have ν :=Aside0.mk ((by rw[hg];exact Nat.ne_of_lt (Q8 (g:= δ) (o:=.cells #[.int .i64 J,.int .i64 Y,.int .i64 X,.slice Z B.length γ] 26 (0,0)) (by(with_reducible repeat first|apply Qb|apply Qd|apply Qc);exact θ.out)): δ ≠ τ));have ρ:=Aside0.mk ((by rw[hg];exact Nat.ne_of_gt (Q8 (g:= δ) (o:=.cells #[.int .i64 J,.int .i64 Y,.int .i64 X,.slice Z B.length γ] 26 (0,0)) (by(with_reducible repeat first|apply Qb|apply Qd|apply Qc);exact θ.out)): τ ≠ δ));clear θ;clear HB;have θ :=D;have HB:=I;have ψ :=O;have ap:=U;have a1:= ε;have φ := ν;have χ :=ρ;clear D I O U ε ν ρ;clear hb hbox hg;have oa:= φ.out;have ob:= χ.out;obtain⟨gq,gr,ac,al,gs,gt,am,an⟩:=qD4 θ.out;obtain⟨ae,af,ag,a3,ah,ai,aj,a4⟩:=qD4 ψ.out)|(go_at_call 17;(with_reducible refine(newelref08_Same.calls k _ _ B _ _ η a2 _ ?side1 ?side2 ?side3 ?side4 A6.out).mono ?_);(case side1=>repeat(first|exact(Kd.Zb ω.out HB.out)|(with_reducible refine Kd.Zc ?_ _)|(with_reducible refine Kd.Za ?_ _)|(with_reducible refine Kd.Zh ?_)));(case side2=>exact a0.out);(case side3=>repeat(first|exact(Kd.Zb d5.out HB.out)|(with_reducible refine Kd.Zc ?_ _)|(with_reducible refine Kd.Za ?_ _)|(with_reducible refine Kd.Zh ?_)));(case side4=>exact d6.out);rintro e w' ⟨rfl,⟨nd,rfl⟩⟩))
    go_ret
    exact⟨by first|rfl|(simp[Qo,Qn] <;> rfl)|(simp[*,Qo,Qn] <;> rfl),by repeat(first|(with_reducible first|exact HB.out|apply Qe|apply Qa|apply Qf|refine Qg ?_ σ.out|refine Qg ?_ a1.out)|exact HB.out)⟩
   ·rw[if_neg c5] at H
    have c5b0:(X == μ)=false:=beq_eq_false_iff_ne.mpr c5
    have c5b1:(X != μ)=true:=bne_iff_ne.mpr c5
    obtain rfl:=Option.some.inj H
    go_enter Tryd.func16,Tryd.ntmps16
    go_wp2_with (first|((with_reducible refine Qz (N:=2) rfl ?_);refine Q7 ?hg (N:=2) ?hd (cs:=#[.int .i64 J,.int .i64 Y,.int .i64 X,.slice Z B.length γ]) (t:=26) ?hr ?_;(case hd=>rfl);(case hg=>rfl);(case hr=>first|(go_simp;done)|(go_simp;rfl));intro δ hg a9 hbox hb;have D:=Aside0.mk (Qr (by repeat(first|(with_reducible first|exact HB.out|apply Qe|apply Qa|apply Qf)|exact HB.out)) hb);have I:=Aside0.mk (hbox);have O:=Aside0.mk ((by rw[hg];exact(Qj (by repeat(first|(with_reducible first|exact HB.out|apply Qe|apply Qa|apply Qf)|exact HB.out))):w.heap.size ≤ δ));have U:=Aside0.mk ((by rw[hg];exact(Qj (by repeat(first|(with_reducible first|exact HB.out|apply Qe|apply Qa|apply Qf)|exact HB.out))):w.heap.size ≤ δ));clear HB;have HB:=D;have θ :=I;have ak:=O;have σ:=U;clear D I O U;clear hb hbox hg)|((with_reducible refine Qz (N:=3) rfl ?_);refine Q7 ?hg (N:=3) ?hd (cs:=#[.int .i64 ζ,.int .i64 κ,.int .i64 μ,.slice a6 η.length a7]) (t:=26) ?hr ?_;(case hd=>rfl);(case hg=>rfl);(case hr=>first|(go_simp;done)|(go_simp;rfl));intro τ hg bj hbox hb;have D:=Aside0.mk (Qp (g:= δ) (o:=.cells #[.int .i64 J,.int .i64 Y,.int .i64 X,.slice Z B.length γ] 26 (0,0)) (by(with_reducible repeat first|apply Qb|apply Qd|apply Qc);exact θ.out) hb);have I:=Aside0.mk (Qr (by repeat(first|(with_reducible first|exact HB.out|apply Qe|apply Qa|apply Qf|refine Qg ?_ σ.out)|exact HB.out)) hb);have O:=Aside0.mk (hbox);have U:=Aside0.mk ((by rw[hg];exact(Qj (by repeat(first|(with_reducible first|exact HB.out|apply Qe|apply Qa|apply Qf|refine Qg ?_ σ.out)|exact HB.out))):w.heap.size ≤ τ));have ε :=Aside0.mk ((by rw[hg];exact(Qj (by repeat(first|(with_reducible first|exact HB.out|apply Qe|apply Qa|apply Qf|refine Qg ?_ σ.out)|exact HB.out))):w.heap.size ≤ τ));have ν :=Aside0.mk ((by rw[hg];exact Nat.ne_of_lt (Q8 (g:= δ) (o:=.cells #[.int .i64 J,.int .i64 Y,.int .i64 X,.slice Z B.length γ] 26 (0,0)) (by(with_reducible repeat first|apply Qb|apply Qd|apply Qc);exact θ.out)): δ ≠ τ));have ρ:=Aside0.mk ((by rw[hg];exact Nat.ne_of_gt (Q8 (g:= δ) (o:=.cells #[.int .i64 J,.int .i64 Y,.int .i64 X,.slice Z B.length γ] 26 (0,0)) (by(with_reducible repeat first|apply Qb|apply Qd|apply Qc);exact θ.out)): τ ≠ δ));clear θ;clear HB;have θ :=D;have HB:=I;have ψ :=O;have ap:=U;have a1:= ε;have φ := ν;have χ :=ρ;clear D I O U ε ν ρ;clear hb hbox hg;have bi:= φ.out;have bl:= χ.out;obtain⟨br,bs,a5,a8,bu,bv,aa,ab⟩:=qD4 θ.out;obtain⟨bk,bm,b5,ar,bn,bo,b6,au⟩:=qD4 ψ.out))
    go_ret
    exact⟨by first|rfl|(simp[Qo,Qn] <;> rfl)|(simp[*,Qo,Qn] <;> rfl),by repeat(first|(with_reducible first|exact HB.out|apply Qe|apply Qa|apply Qf|refine Qg ?_ σ.out|refine Qg ?_ a1.out)|exact HB.out)⟩
  ·rw[if_neg c4] at H
   have c4b0:(Y == κ)=false:=beq_eq_false_iff_ne.mpr c4
   have c4b1:(Y != κ)=true:=bne_iff_ne.mpr c4
   obtain rfl:=Option.some.inj H
   go_enter Tryd.func16,Tryd.ntmps16
   go_wp2_with (first|((with_reducible refine Qz (N:=2) rfl ?_);refine Q7 ?hg (N:=2) ?hd (cs:=#[.int .i64 J,.int .i64 Y,.int .i64 X,.slice Z B.length γ]) (t:=26) ?hr ?_;(case hd=>rfl);(case hg=>rfl);(case hr=>first|(go_simp;done)|(go_simp;rfl));intro δ hg ju hbox hb;have D:=Aside0.mk (Qr (by repeat(first|(with_reducible first|exact HB.out|apply Qe|apply Qa|apply Qf)|exact HB.out)) hb);have I:=Aside0.mk (hbox);have O:=Aside0.mk ((by rw[hg];exact(Qj (by repeat(first|(with_reducible first|exact HB.out|apply Qe|apply Qa|apply Qf)|exact HB.out))):w.heap.size ≤ δ));have U:=Aside0.mk ((by rw[hg];exact(Qj (by repeat(first|(with_reducible first|exact HB.out|apply Qe|apply Qa|apply Qf)|exact HB.out))):w.heap.size ≤ δ));clear HB;have HB:=D;have θ :=I;have ak:=O;have σ:=U;clear D I O U;clear hb hbox hg)|((with_reducible refine Qz (N:=3) rfl ?_);refine Q7 ?hg (N:=3) ?hd (cs:=#[.int .i64 ζ,.int .i64 κ,.int .i64 μ,.slice a6 η.length a7]) (t:=26) ?hr ?_;(case hd=>rfl);(case hg=>rfl);(case hr=>first|(go_simp;done)|(go_simp;rfl));intro τ hg m0 hbox hb;have D:=Aside0.mk (Qp (g:= δ) (o:=.cells #[.int .i64 J,.int .i64 Y,.int .i64 X,.slice Z B.length γ] 26 (0,0)) (by(with_reducible repeat first|apply Qb|apply Qd|apply Qc);exact θ.out) hb);have I:=Aside0.mk (Qr (by repeat(first|(with_reducible first|exact HB.out|apply Qe|apply Qa|apply Qf|refine Qg ?_ σ.out)|exact HB.out)) hb);have O:=Aside0.mk (hbox);have U:=Aside0.mk ((by rw[hg];exact(Qj (by repeat(first|(with_reducible first|exact HB.out|apply Qe|apply Qa|apply Qf|refine Qg ?_ σ.out)|exact HB.out))):w.heap.size ≤ τ));have ε :=Aside0.mk ((by rw[hg];exact(Qj (by repeat(first|(with_reducible first|exact HB.out|apply Qe|apply Qa|apply Qf|refine Qg ?_ σ.out)|exact HB.out))):w.heap.size ≤ τ));have ν :=Aside0.mk ((by rw[hg];exact Nat.ne_of_lt (Q8 (g:= δ) (o:=.cells #[.int .i64 J,.int .i64 Y,.int .i64 X,.slice Z B.length γ] 26 (0,0)) (by(with_reducible repeat first|apply Qb|apply Qd|apply Qc);exact θ.out)): δ ≠ τ));have ρ:=Aside0.mk ((by rw[hg];exact Nat.ne_of_gt (Q8 (g:= δ) (o:=.cells #[.int .i64 J,.int .i64 Y,.int .i64 X,.slice Z B.length γ] 26 (0,0)) (by(with_reducible repeat first|apply Qb|apply Qd|apply Qc);exact θ.out)): τ ≠ δ));clear θ;clear HB;have θ :=D;have HB:=I;have ψ :=O;have ap:=U;have a1:= ε;have φ := ν;have χ :=ρ;clear D I O U ε ν ρ;clear hb hbox hg;have f9:= φ.out;have fa:= χ.out;obtain⟨az,b8,b9,bb,bd,be,bf,bh⟩:=qD4 θ.out;obtain⟨ax,ay,b1,ca,b2,b3,b4,cb⟩:=qD4 ψ.out))
   go_ret
   exact⟨by first|rfl|(simp[Qo,Qn] <;> rfl)|(simp[*,Qo,Qn] <;> rfl),by repeat(first|(with_reducible first|exact HB.out|apply Qe|apply Qa|apply Qf|refine Qg ?_ σ.out|refine Qg ?_ a1.out)|exact HB.out)⟩
 ·rw[if_neg c3] at H
  have c3b0:(J == ζ)=false:=beq_eq_false_iff_ne.mpr c3
  have c3b1:(J != ζ)=true:=bne_iff_ne.mpr c3
  obtain rfl:=Option.some.inj H
  go_enter Tryd.func16,Tryd.ntmps16
  go_wp2_with (first|((with_reducible refine Qz (N:=2) rfl ?_);refine Q7 ?hg (N:=2) ?hd (cs:=#[.int .i64 J,.int .i64 Y,.int .i64 X,.slice Z B.length γ]) (t:=26) ?hr ?_;(case hd=>rfl);(case hg=>rfl);(case hr=>first|(go_simp;done)|(go_simp;rfl));intro δ hg bz hbox hb;have D:=Aside0.mk (Qr (by repeat(first|(with_reducible first|exact HB.out|apply Qe|apply Qa|apply Qf)|exact HB.out)) hb);have I:=Aside0.mk (hbox);have O:=Aside0.mk ((by rw[hg];exact(Qj (by repeat(first|(with_reducible first|exact HB.out|apply Qe|apply Qa|apply Qf)|exact HB.out))):w.heap.size ≤ δ));have U:=Aside0.mk ((by rw[hg];exact(Qj (by repeat(first|(with_reducible first|exact HB.out|apply Qe|apply Qa|apply Qf)|exact HB.out))):w.heap.size ≤ δ));clear HB;have HB:=D;have θ :=I;have ak:=O;have σ:=U;clear D I O U;clear hb hbox hg)|((with_reducible refine Qz (N:=3) rfl ?_);refine Q7 ?hg (N:=3) ?hd (cs:=#[.int .i64 ζ,.int .i64 κ,.int .i64 μ,.slice a6 η.length a7]) (t:=26) ?hr ?_;(case hd=>rfl);(case hg=>rfl);(case hr=>first|(go_simp;done)|(go_simp;rfl));intro τ hg cf hbox hb;have D:=Aside0.mk (Qp (g:= δ) (o:=.cells #[.int .i64 J,.int .i64 Y,.int .i64 X,.slice Z B.length γ] 26 (0,0)) (by(with_reducible repeat first|apply Qb|apply Qd|apply Qc);exact θ.out) hb);have I:=Aside0.mk (Qr (by repeat(first|(with_reducible first|exact HB.out|apply Qe|apply Qa|apply Qf|refine Qg ?_ σ.out)|exact HB.out)) hb);have O:=Aside0.mk (hbox);have U:=Aside0.mk ((by rw[hg];exact(Qj (by repeat(first|(with_reducible first|exact HB.out|apply Qe|apply Qa|apply Qf|refine Qg ?_ σ.out)|exact HB.out))):w.heap.size ≤ τ));have ε :=Aside0.mk ((by rw[hg];exact(Qj (by repeat(first|(with_reducible first|exact HB.out|apply Qe|apply Qa|apply Qf|refine Qg ?_ σ.out)|exact HB.out))):w.heap.size ≤ τ));have ν :=Aside0.mk ((by rw[hg];exact Nat.ne_of_lt (Q8 (g:= δ) (o:=.cells #[.int .i64 J,.int .i64 Y,.int .i64 X,.slice Z B.length γ] 26 (0,0)) (by(with_reducible repeat first|apply Qb|apply Qd|apply Qc);exact θ.out)): δ ≠ τ));have ρ:=Aside0.mk ((by rw[hg];exact Nat.ne_of_gt (Q8 (g:= δ) (o:=.cells #[.int .i64 J,.int .i64 Y,.int .i64 X,.slice Z B.length γ] 26 (0,0)) (by(with_reducible repeat first|apply Qb|apply Qd|apply Qc);exact θ.out)): τ ≠ δ));clear θ;clear HB;have θ :=D;have HB:=I;have ψ :=O;have ap:=U;have a1:= ε;have φ := ν;have χ :=ρ;clear D I O U ε ν ρ;clear hb hbox hg;have bp:= φ.out;have bw:= χ.out;obtain⟨cd,ce,ch,ci,cj,ck,cm,cn⟩:=qD4 θ.out;obtain⟨ao,av,aw,b0,b7,ba,bc,bg⟩:=qD4 ψ.out))
  go_ret
  exact⟨by first|rfl|(simp[Qo,Qn] <;> rfl)|(simp[*,Qo,Qn] <;> rfl),by repeat(first|(with_reducible first|exact HB.out|apply Qe|apply Qa|apply Qf|refine Qg ?_ σ.out|refine Qg ?_ a1.out)|exact HB.out)⟩
def bytes_Equal.f (l0:List Int) (l1:List Int):Option (Bool):=some ((strOfNums l0).toList==(strOfNums l1).toList)
set_option maxHeartbeats 8000000 in
set_option maxRecDepth 100000 in
theorem bytes_Equal.calls (A0:Option Addr) (c0:Nat) (l0:List Int) (A1:Option Addr) (c1:Nat) (l1:List Int) (r:Bool) (w:World) (ξ :Kd.C (Kd.int .u8) w A0 l0.length l0) (κ :l0.length≤c0) (O:Kd.C (Kd.int .u8) w A1 l1.length l1) (I:l1.length≤c1) (h:bytes_Equal.f l0 l1=some r):
  Calls Tryd.prog 34 #[.slice A0 l0.length c0,.slice A1 l1.length c1] w fun e w'=>e = .returned (.bool r)∧Drawn0 w w':=by
 have δ :=Aside0.mk ξ
 have ω :=Aside0.mk κ
 clear ξ κ
 have ε :=Aside0.mk O
 have ι :=Aside0.mk I
 clear O I
 have H:(some ((strOfNums l0).toList==(strOfNums l1).toList))=some r:=h
 clear h
 obtain rfl:=Option.some.inj H
 have B:=Kd.Un (P:=Tryd.prog) (A:=A0) (c:=c0) Tryd.underlying22 Tryd.underlying5 Tryd.underlying9 δ.out
 have D:=Kd.Un (P:=Tryd.prog) (A:=A1) (c:=c1) Tryd.underlying22 Tryd.underlying5 Tryd.underlying9 ε.out
 go_enter Tryd.func34,Tryd.ntmps34
 go_wp2
 go_ret
 exact⟨qR,by repeat(first|exact Drawn0.refl _|apply Drawn0.step)⟩
def flash_Same.f (J:Int) (Y:Int) (X:Int) (B:List Int) (ζ :Int) (κ :Int) (μ :Int) (η :List Int):Option (Bool):=if J = ζ then (if Y = κ then (if X = μ then ((bytes_Equal.f B η).bind fun a2=>(some a2)) else (some false)) else (some false)) else (some false)
set_option maxHeartbeats 8000000 in
set_option maxRecDepth 100000 in
theorem flash_Same.calls (J:Int) (Y:Int) (X:Int) (Z:Option Addr) (γ:Nat) (B:List Int) (ζ :Int) (κ :Int) (μ :Int) (a6:Option Addr) (a7:Nat) (η :List Int) (r:Bool) (w:World) (ι :Kd.C (Kd.int .u8) w Z B.length B) (ξ :B.length≤γ) (db:Kd.C (Kd.int .u8) w a6 η.length η) (dc: η.length≤a7) (h:flash_Same.f J Y X B ζ κ μ η = some r):
  Calls Tryd.prog 20 #[.agg #[.int .i64 J,.int .i64 Y,.int .i64 X,.slice Z B.length γ],.agg #[.int .i64 ζ,.int .i64 κ,.int .i64 μ,.slice a6 η.length a7]] w fun e w'=>e = .returned (.bool r)∧Below w.heap.size w w':=by
 have dz:=Tryd.underlying26
 have ω :=Aside0.mk ι
 have a0:=Aside0.mk ξ
 clear ι ξ
 have d5:=Aside0.mk db
 have d6:=Aside0.mk dc
 clear db dc
 have HB:=Aside0.mk (Below.refl w.heap.size w)
 have H:(if J = ζ then (if Y = κ then (if X = μ then ((bytes_Equal.f B η).bind fun a2=>(some a2)) else (some false)) else (some false)) else (some false))=some r:=h
 clear h
 by_cases c3:J = ζ
 ·rw[if_pos c3] at H
  have c3b0:(J == ζ)=true:=beq_iff_eq.mpr c3
  have c3b1:(J != ζ)=false:=bne_eq_false_iff_eq.mpr c3
  clear c3
  by_cases c4:Y = κ
  ·rw[if_pos c4] at H
   have c4b0:(Y == κ)=true:=beq_iff_eq.mpr c4
   have c4b1:(Y != κ)=false:=bne_eq_false_iff_eq.mpr c4
   clear c4
   by_cases c5:X = μ
   ·rw[if_pos c5] at H
    have c5b0:(X == μ)=true:=beq_iff_eq.mpr c5
    have c5b1:(X != μ)=false:=bne_eq_false_iff_eq.mpr c5
    clear c5
    replace H:=Option.bind_eq_some_iff.mp H
    obtain⟨a2,bq,H⟩:=H
    replace H:(some a2)=some r:=H
    have A6:=Aside0.mk bq
    clear bq
    obtain rfl:=Option.some.inj H
    go_enter Tryd.func20,Tryd.ntmps20
    go_wp2_with (first|((with_reducible refine Qz (N:=2) rfl ?_);refine Q7 ?hg (N:=2) ?hd (cs:=#[.int .i64 J,.int .i64 Y,.int .i64 X,.slice Z B.length γ]) (t:=26) ?hr ?_;(case hd=>rfl);(case hg=>rfl);(case hr=>first|(go_simp;done)|(go_simp;rfl));intro δ hg w7 hbox hb;have D:=Aside0.mk (Qr (by repeat(first|(with_reducible first|exact HB.out|apply Qe|apply Qa|apply Qf)|exact HB.out)) hb);have I:=Aside0.mk (hbox);have O:=Aside0.mk ((by rw[hg];exact(Qj (by repeat(first|(with_reducible first|exact HB.out|apply Qe|apply Qa|apply Qf)|exact HB.out))):w.heap.size ≤ δ));have U:=Aside0.mk ((by rw[hg];exact(Qj (by repeat(first|(with_reducible first|exact HB.out|apply Qe|apply Qa|apply Qf)|exact HB.out))):w.heap.size ≤ δ));clear HB;have HB:=D;have θ :=I;have ak:=O;have σ:=U;clear D I O U;clear hb hbox hg)|((with_reducible refine Qz (N:=3) rfl ?_);refine Q7 ?hg (N:=3) ?hd (cs:=#[.int .i64 ζ,.int .i64 κ,.int .i64 μ,.slice a6 η.length a7]) (t:=26) ?hr ?_;(case hd=>rfl);(case hg=>rfl);(case hr=>first|(go_simp;done)|(go_simp;rfl));intro τ hg w8 hbox hb;have D:=Aside0.mk (Qp (g:= δ) (o:=.cells #[.int .i64 J,.int .i64 Y,.int .i64 X,.slice Z B.length γ] 26 (0,0)) (by(with_reducible repeat first|apply Qb|apply Qd|apply Qc);exact θ.out) hb);have I:=Aside0.mk (Qr (by repeat(first|(with_reducible first|exact HB.out|apply Qe|apply Qa|apply Qf|refine Qg ?_ σ.out)|exact HB.out)) hb);have O:=Aside0.mk (hbox);have U:=Aside0.mk ((by rw[hg];exact(Qj (by repeat(first|(with_reducible first|exact HB.out|apply Qe|apply Qa|apply Qf|refine Qg ?_ σ.out)|exact HB.out))):w.heap.size ≤ τ));have ε :=Aside0.mk ((by rw[hg];exact(Qj (by repeat(first|(with_reducible first|exact HB.out|apply Qe|apply Qa|apply Qf|refine Qg ?_ σ.out)|exact HB.out))):w.heap.size ≤ τ));have ν :=Aside0.mk ((by rw[hg];exact Nat.ne_of_lt (Q8 (g:= δ) (o:=.cells #[.int .i64 J,.int .i64 Y,.int .i64 X,.slice Z B.length γ] 26 (0,0)) (by(with_reducible repeat first|apply Qb|apply Qd|apply Qc);exact θ.out)): δ ≠ τ));have ρ:=Aside0.mk ((by rw[hg];exact Nat.ne_of_gt (Q8 (g:= δ) (o:=.cells #[.int .i64 J,.int .i64 Y,.int .i64 X,.slice Z B.length γ] 26 (0,0)) (by(with_reducible repeat first|apply Qb|apply Qd|apply Qc);exact θ.out)): τ ≠ δ));clear θ;clear HB;have θ :=D;have HB:=I;have ψ :=O;have ap:=U;have a1:= ε;have φ := ν;have χ :=ρ;clear D I O U ε ν ρ;clear hb hbox hg;have oa:= φ.out;have ob:= χ.out;obtain⟨gq,gr,ac,al,gs,gt,am,an⟩:=qD4 θ.out;obtain⟨ae,af,ag,a3,ah,ai,aj,a4⟩:=qD4 ψ.out)|(go_at_call 34;(with_reducible refine(bytes_Equal.calls _ _ B _ _ η a2 _ ?side1 ?side2 ?side3 ?side4 A6.out).mono ?_);(case side1=>repeat(first|exact(Kd.Zb ω.out HB.out)|(with_reducible refine Kd.Zc ?_ _)|(with_reducible refine Kd.Za ?_ _)|(with_reducible refine Kd.Zh ?_)));(case side2=>exact a0.out);(case side3=>repeat(first|exact(Kd.Zb d5.out HB.out)|(with_reducible refine Kd.Zc ?_ _)|(with_reducible refine Kd.Za ?_ _)|(with_reducible refine Kd.Zh ?_)));(case side4=>exact d6.out);rintro e w' ⟨rfl,⟨nd,rfl⟩⟩))
    go_ret
    exact⟨by first|rfl|(simp[Qo,Qn] <;> rfl)|(simp[*,Qo,Qn] <;> rfl),by repeat(first|(with_reducible first|exact HB.out|apply Qe|apply Qa|apply Qf|refine Qg ?_ σ.out|refine Qg ?_ a1.out)|exact HB.out)⟩
   ·rw[if_neg c5] at H
    have c5b0:(X == μ)=false:=beq_eq_false_iff_ne.mpr c5
    have c5b1:(X != μ)=true:=bne_iff_ne.mpr c5
    obtain rfl:=Option.some.inj H
    go_enter Tryd.func20,Tryd.ntmps20
    go_wp2_with (first|((with_reducible refine Qz (N:=2) rfl ?_);refine Q7 ?hg (N:=2) ?hd (cs:=#[.int .i64 J,.int .i64 Y,.int .i64 X,.slice Z B.length γ]) (t:=26) ?hr ?_;(case hd=>rfl);(case hg=>rfl);(case hr=>first|(go_simp;done)|(go_simp;rfl));intro δ hg a9 hbox hb;have D:=Aside0.mk (Qr (by repeat(first|(with_reducible first|exact HB.out|apply Qe|apply Qa|apply Qf)|exact HB.out)) hb);have I:=Aside0.mk (hbox);have O:=Aside0.mk ((by rw[hg];exact(Qj (by repeat(first|(with_reducible first|exact HB.out|apply Qe|apply Qa|apply Qf)|exact HB.out))):w.heap.size ≤ δ));have U:=Aside0.mk ((by rw[hg];exact(Qj (by repeat(first|(with_reducible first|exact HB.out|apply Qe|apply Qa|apply Qf)|exact HB.out))):w.heap.size ≤ δ));clear HB;have HB:=D;have θ :=I;have ak:=O;have σ:=U;clear D I O U;clear hb hbox hg)|((with_reducible refine Qz (N:=3) rfl ?_);refine Q7 ?hg (N:=3) ?hd (cs:=#[.int .i64 ζ,.int .i64 κ,.int .i64 μ,.slice a6 η.length a7]) (t:=26) ?hr ?_;(case hd=>rfl);(case hg=>rfl);(case hr=>first|(go_simp;done)|(go_simp;rfl));intro τ hg bj hbox hb;have D:=Aside0.mk (Qp (g:= δ) (o:=.cells #[.int .i64 J,.int .i64 Y,.int .i64 X,.slice Z B.length γ] 26 (0,0)) (by(with_reducible repeat first|apply Qb|apply Qd|apply Qc);exact θ.out) hb);have I:=Aside0.mk (Qr (by repeat(first|(with_reducible first|exact HB.out|apply Qe|apply Qa|apply Qf|refine Qg ?_ σ.out)|exact HB.out)) hb);have O:=Aside0.mk (hbox);have U:=Aside0.mk ((by rw[hg];exact(Qj (by repeat(first|(with_reducible first|exact HB.out|apply Qe|apply Qa|apply Qf|refine Qg ?_ σ.out)|exact HB.out))):w.heap.size ≤ τ));have ε :=Aside0.mk ((by rw[hg];exact(Qj (by repeat(first|(with_reducible first|exact HB.out|apply Qe|apply Qa|apply Qf|refine Qg ?_ σ.out)|exact HB.out))):w.heap.size ≤ τ));have ν :=Aside0.mk ((by rw[hg];exact Nat.ne_of_lt (Q8 (g:= δ) (o:=.cells #[.int .i64 J,.int .i64 Y,.int .i64 X,.slice Z B.length γ] 26 (0,0)) (by(with_reducible repeat first|apply Qb|apply Qd|apply Qc);exact θ.out)): δ ≠ τ));have ρ:=Aside0.mk ((by rw[hg];exact Nat.ne_of_gt (Q8 (g:= δ) (o:=.cells #[.int .i64 J,.int .i64 Y,.int .i64 X,.slice Z B.length γ] 26 (0,0)) (by(with_reducible repeat first|apply Qb|apply Qd|apply Qc);exact θ.out)): τ ≠ δ));clear θ;clear HB;have θ :=D;have HB:=I;have ψ :=O;have ap:=U;have a1:= ε;have φ := ν;have χ :=ρ;clear D I O U ε ν ρ;clear hb hbox hg;have bi:= φ.out;have bl:= χ.out;obtain⟨br,bs,a5,a8,bu,bv,aa,ab⟩:=qD4 θ.out;obtain⟨bk,bm,b5,ar,bn,bo,b6,au⟩:=qD4 ψ.out))
    go_ret
    exact⟨by first|rfl|(simp[Qo,Qn] <;> rfl)|(simp[*,Qo,Qn] <;> rfl),by repeat(first|(with_reducible first|exact HB.out|apply Qe|apply Qa|apply Qf|refine Qg ?_ σ.out|refine Qg ?_ a1.out)|exact HB.out)⟩
  ·rw[if_neg c4] at H
   have c4b0:(Y == κ)=false:=beq_eq_false_iff_ne.mpr c4
   have c4b1:(Y != κ)=true:=bne_iff_ne.mpr c4
   obtain rfl:=Option.some.inj H
   go_enter Tryd.func20,Tryd.ntmps20
   go_wp2_with (first|((with_reducible refine Qz (N:=2) rfl ?_);refine Q7 ?hg (N:=2) ?hd (cs:=#[.int .i64 J,.int .i64 Y,.int .i64 X,.slice Z B.length γ]) (t:=26) ?hr ?_;(case hd=>rfl);(case hg=>rfl);(case hr=>first|(go_simp;done)|(go_simp;rfl));intro δ hg ju hbox hb;have D:=Aside0.mk (Qr (by repeat(first|(with_reducible first|exact HB.out|apply Qe|apply Qa|apply Qf)|exact HB.out)) hb);have I:=Aside0.mk (hbox);have O:=Aside0.mk ((by rw[hg];exact(Qj (by repeat(first|(with_reducible first|exact HB.out|apply Qe|apply Qa|apply Qf)|exact HB.out))):w.heap.size ≤ δ));have U:=Aside0.mk ((by rw[hg];exact(Qj (by repeat(first|(with_reducible first|exact HB.out|apply Qe|apply Qa|apply Qf)|exact HB.out))):w.heap.size ≤ δ));clear HB;have HB:=D;have θ :=I;have ak:=O;have σ:=U;clear D I O U;clear hb hbox hg)|((with_reducible refine Qz (N:=3) rfl ?_);refine Q7 ?hg (N:=3) ?hd (cs:=#[.int .i64 ζ,.int .i64 κ,.int .i64 μ,.slice a6 η.length a7]) (t:=26) ?hr ?_;(case hd=>rfl);(case hg=>rfl);(case hr=>first|(go_simp;done)|(go_simp;rfl));intro τ hg m0 hbox hb;have D:=Aside0.mk (Qp (g:= δ) (o:=.cells #[.int .i64 J,.int .i64 Y,.int .i64 X,.slice Z B.length γ] 26 (0,0)) (by(with_reducible repeat first|apply Qb|apply Qd|apply Qc);exact θ.out) hb);have I:=Aside0.mk (Qr (by repeat(first|(with_reducible first|exact HB.out|apply Qe|apply Qa|apply Qf|refine Qg ?_ σ.out)|exact HB.out)) hb);have O:=Aside0.mk (hbox);have U:=Aside0.mk ((by rw[hg];exact(Qj (by repeat(first|(with_reducible first|exact HB.out|apply Qe|apply Qa|apply Qf|refine Qg ?_ σ.out)|exact HB.out))):w.heap.size ≤ τ));have ε :=Aside0.mk ((by rw[hg];exact(Qj (by repeat(first|(with_reducible first|exact HB.out|apply Qe|apply Qa|apply Qf|refine Qg ?_ σ.out)|exact HB.out))):w.heap.size ≤ τ));have ν :=Aside0.mk ((by rw[hg];exact Nat.ne_of_lt (Q8 (g:= δ) (o:=.cells #[.int .i64 J,.int .i64 Y,.int .i64 X,.slice Z B.length γ] 26 (0,0)) (by(with_reducible repeat first|apply Qb|apply Qd|apply Qc);exact θ.out)): δ ≠ τ));have ρ:=Aside0.mk ((by rw[hg];exact Nat.ne_of_gt (Q8 (g:= δ) (o:=.cells #[.int .i64 J,.int .i64 Y,.int .i64 X,.slice Z B.length γ] 26 (0,0)) (by(with_reducible repeat first|apply Qb|apply Qd|apply Qc);exact θ.out)): τ ≠ δ));clear θ;clear HB;have θ :=D;have HB:=I;have ψ :=O;have ap:=U;have a1:= ε;have φ := ν;have χ :=ρ;clear D I O U ε ν ρ;clear hb hbox hg;have f9:= φ.out;have fa:= χ.out;obtain⟨az,b8,b9,bb,bd,be,bf,bh⟩:=qD4 θ.out;obtain⟨ax,ay,b1,ca,b2,b3,b4,cb⟩:=qD4 ψ.out))
   go_ret
   exact⟨by first|rfl|(simp[Qo,Qn] <;> rfl)|(simp[*,Qo,Qn] <;> rfl),by repeat(first|(with_reducible first|exact HB.out|apply Qe|apply Qa|apply Qf|refine Qg ?_ σ.out|refine Qg ?_ a1.out)|exact HB.out)⟩
 ·rw[if_neg c3] at H
  have c3b0:(J == ζ)=false:=beq_eq_false_iff_ne.mpr c3
  have c3b1:(J != ζ)=true:=bne_iff_ne.mpr c3
  obtain rfl:=Option.some.inj H
  go_enter Tryd.func20,Tryd.ntmps20
  go_wp2_with (first|((with_reducible refine Qz (N:=2) rfl ?_);refine Q7 ?hg (N:=2) ?hd (cs:=#[.int .i64 J,.int .i64 Y,.int .i64 X,.slice Z B.length γ]) (t:=26) ?hr ?_;(case hd=>rfl);(case hg=>rfl);(case hr=>first|(go_simp;done)|(go_simp;rfl));intro δ hg bz hbox hb;have D:=Aside0.mk (Qr (by repeat(first|(with_reducible first|exact HB.out|apply Qe|apply Qa|apply Qf)|exact HB.out)) hb);have I:=Aside0.mk (hbox);have O:=Aside0.mk ((by rw[hg];exact(Qj (by repeat(first|(with_reducible first|exact HB.out|apply Qe|apply Qa|apply Qf)|exact HB.out))):w.heap.size ≤ δ));have U:=Aside0.mk ((by rw[hg];exact(Qj (by repeat(first|(with_reducible first|exact HB.out|apply Qe|apply Qa|apply Qf)|exact HB.out))):w.heap.size ≤ δ));clear HB;have HB:=D;have θ :=I;have ak:=O;have σ:=U;clear D I O U;clear hb hbox hg)|((with_reducible refine Qz (N:=3) rfl ?_);refine Q7 ?hg (N:=3) ?hd (cs:=#[.int .i64 ζ,.int .i64 κ,.int .i64 μ,.slice a6 η.length a7]) (t:=26) ?hr ?_;(case hd=>rfl);(case hg=>rfl);(case hr=>first|(go_simp;done)|(go_simp;rfl));intro τ hg cf hbox hb;have D:=Aside0.mk (Qp (g:= δ) (o:=.cells #[.int .i64 J,.int .i64 Y,.int .i64 X,.slice Z B.length γ] 26 (0,0)) (by(with_reducible repeat first|apply Qb|apply Qd|apply Qc);exact θ.out) hb);have I:=Aside0.mk (Qr (by repeat(first|(with_reducible first|exact HB.out|apply Qe|apply Qa|apply Qf|refine Qg ?_ σ.out)|exact HB.out)) hb);have O:=Aside0.mk (hbox);have U:=Aside0.mk ((by rw[hg];exact(Qj (by repeat(first|(with_reducible first|exact HB.out|apply Qe|apply Qa|apply Qf|refine Qg ?_ σ.out)|exact HB.out))):w.heap.size ≤ τ));have ε :=Aside0.mk ((by rw[hg];exact(Qj (by repeat(first|(with_reducible first|exact HB.out|apply Qe|apply Qa|apply Qf|refine Qg ?_ σ.out)|exact HB.out))):w.heap.size ≤ τ));have ν :=Aside0.mk ((by rw[hg];exact Nat.ne_of_lt (Q8 (g:= δ) (o:=.cells #[.int .i64 J,.int .i64 Y,.int .i64 X,.slice Z B.length γ] 26 (0,0)) (by(with_reducible repeat first|apply Qb|apply Qd|apply Qc);exact θ.out)): δ ≠ τ));have ρ:=Aside0.mk ((by rw[hg];exact Nat.ne_of_gt (Q8 (g:= δ) (o:=.cells #[.int .i64 J,.int .i64 Y,.int .i64 X,.slice Z B.length γ] 26 (0,0)) (by(with_reducible repeat first|apply Qb|apply Qd|apply Qc);exact θ.out)): τ ≠ δ));clear θ;clear HB;have θ :=D;have HB:=I;have ψ :=O;have ap:=U;have a1:= ε;have φ := ν;have χ :=ρ;clear D I O U ε ν ρ;clear hb hbox hg;have bp:= φ.out;have bw:= χ.out;obtain⟨cd,ce,ch,ci,cj,ck,cm,cn⟩:=qD4 θ.out;obtain⟨ao,av,aw,b0,b7,ba,bc,bg⟩:=qD4 ψ.out))
  go_ret
  exact⟨by first|rfl|(simp[Qo,Qn] <;> rfl)|(simp[*,Qo,Qn] <;> rfl),by repeat(first|(with_reducible first|exact HB.out|apply Qe|apply Qa|apply Qf|refine Qg ?_ σ.out|refine Qg ?_ a1.out)|exact HB.out)⟩
def newelref12_May.f (J:Int) (Y:Int) (X:Int) (B:List Int):Option (Bool):=if J≥1 then (if J≤1099511627776 then (if X≥0 then (if X≤5 then (some (decide ((B.length:Int)≤4096))) else (some false)) else (some false)) else (some false)) else (some false)
set_option maxHeartbeats 8000000 in
set_option maxRecDepth 100000 in
theorem newelref12_May.calls (J:Int) (Y:Int) (X:Int) (Z:Option Addr) (γ:Nat) (B:List Int) (r:Bool) (w:World) (ι :Kd.C (Kd.int .u8) w Z B.length B) (ξ :B.length≤γ) (h:newelref12_May.f J Y X B=some r):
  Calls Tryd.prog 21 #[.agg #[.int .i64 J,.int .i64 Y,.int .i64 X,.slice Z B.length γ]] w fun e w'=>e = .returned (.bool r)∧Below w.heap.size w w':=by
 have dz:=Tryd.underlying26
 have ω :=Aside0.mk ι
 have a0:=Aside0.mk ξ
 clear ι ξ
 have HB:=Aside0.mk (Below.refl w.heap.size w)
 have H:(if J≥1 then (if J≤1099511627776 then (if X≥0 then (if X≤5 then (some (decide ((B.length:Int)≤4096))) else (some false)) else (some false)) else (some false)) else (some false))=some r:=h
 clear h
 by_cases c2:J≥1
 ·rw[if_pos c2] at H
  have c2b0:decide (1≤J)=true:=decide_eq_true c2
  clear c2
  by_cases c3:J≤1099511627776
  ·rw[if_pos c3] at H
   have c3b0:decide (J≤1099511627776)=true:=decide_eq_true c3
   clear c3
   by_cases c4:X≥0
   ·rw[if_pos c4] at H
    have c4b0:decide (0≤X)=true:=decide_eq_true c4
    clear c4
    by_cases c5:X≤5
    ·rw[if_pos c5] at H
     have c5b0:decide (X≤5)=true:=decide_eq_true c5
     clear c5
     obtain rfl:=Option.some.inj H
     go_enter Tryd.func21,Tryd.ntmps21
     go_wp2_with (first|((with_reducible refine Qz (N:=1) rfl ?_);(try(refine Zw (by rfl) ?_;dsimp only));refine Q7 ?hg (N:=1) ?hd (cs:=#[.int .i64 J,.int .i64 Y,.int .i64 X,.slice Z B.length γ]) (t:=26) ?hr ?_;(case hd=>rfl);(case hg=>rfl);(case hr=>first|(go_simp;done)|(go_simp;rfl));intro δ hg w6 hbox hb;have D:=Aside0.mk (Qr (by repeat(first|(with_reducible first|exact HB.out|apply Qe|apply Qa|apply Qf)|exact HB.out)) hb);have I:=Aside0.mk (hbox);have O:=Aside0.mk ((by rw[hg];exact(Qj (by repeat(first|(with_reducible first|exact HB.out|apply Qe|apply Qa|apply Qf)|exact HB.out))):w.heap.size ≤ δ));have U:=Aside0.mk ((by rw[hg];exact(Qj (by repeat(first|(with_reducible first|exact HB.out|apply Qe|apply Qa|apply Qf)|exact HB.out))):w.heap.size ≤ δ));clear HB;have HB:=D;have ε :=I;have η :=O;have ζ :=U;clear D I O U;clear hb hbox hg;obtain⟨σ,τ,φ,θ,χ,ψ,a2,κ⟩:=qD4 ε.out))
     go_ret
     exact⟨by first|rfl|(simp[Qo,Qn] <;> rfl)|(simp[*,Qo,Qn] <;> rfl),by repeat(first|(with_reducible first|exact HB.out|apply Qe|apply Qa|apply Qf|refine Qg ?_ ζ.out)|exact HB.out)⟩
    ·rw[if_neg c5] at H
     have c5b0:decide (X≤5)=false:=decide_eq_false c5
     clear c5
     obtain rfl:=Option.some.inj H
     go_enter Tryd.func21,Tryd.ntmps21
     go_wp2_with (first|((with_reducible refine Qz (N:=1) rfl ?_);(try(refine Zw (by rfl) ?_;dsimp only));refine Q7 ?hg (N:=1) ?hd (cs:=#[.int .i64 J,.int .i64 Y,.int .i64 X,.slice Z B.length γ]) (t:=26) ?hr ?_;(case hd=>rfl);(case hg=>rfl);(case hr=>first|(go_simp;done)|(go_simp;rfl));intro δ hg w8 hbox hb;have D:=Aside0.mk (Qr (by repeat(first|(with_reducible first|exact HB.out|apply Qe|apply Qa|apply Qf)|exact HB.out)) hb);have I:=Aside0.mk (hbox);have O:=Aside0.mk ((by rw[hg];exact(Qj (by repeat(first|(with_reducible first|exact HB.out|apply Qe|apply Qa|apply Qf)|exact HB.out))):w.heap.size ≤ δ));have U:=Aside0.mk ((by rw[hg];exact(Qj (by repeat(first|(with_reducible first|exact HB.out|apply Qe|apply Qa|apply Qf)|exact HB.out))):w.heap.size ≤ δ));clear HB;have HB:=D;have ε :=I;have η :=O;have ζ :=U;clear D I O U;clear hb hbox hg;obtain⟨μ,ν,ρ,a1,a6,a7,ac,ak⟩:=qD4 ε.out))
     go_ret
     exact⟨by first|rfl|(simp[Qo,Qn] <;> rfl)|(simp[*,Qo,Qn] <;> rfl),by repeat(first|(with_reducible first|exact HB.out|apply Qe|apply Qa|apply Qf|refine Qg ?_ ζ.out)|exact HB.out)⟩
   ·rw[if_neg c4] at H
    have c4b0:decide (0≤X)=false:=decide_eq_false c4
    clear c4
    obtain rfl:=Option.some.inj H
    go_enter Tryd.func21,Tryd.ntmps21
    go_wp2_with (first|((with_reducible refine Qz (N:=1) rfl ?_);(try(refine Zw (by rfl) ?_;dsimp only));refine Q7 ?hg (N:=1) ?hd (cs:=#[.int .i64 J,.int .i64 Y,.int .i64 X,.slice Z B.length γ]) (t:=26) ?hr ?_;(case hd=>rfl);(case hg=>rfl);(case hr=>first|(go_simp;done)|(go_simp;rfl));intro δ hg gh hbox hb;have D:=Aside0.mk (Qr (by repeat(first|(with_reducible first|exact HB.out|apply Qe|apply Qa|apply Qf)|exact HB.out)) hb);have I:=Aside0.mk (hbox);have O:=Aside0.mk ((by rw[hg];exact(Qj (by repeat(first|(with_reducible first|exact HB.out|apply Qe|apply Qa|apply Qf)|exact HB.out))):w.heap.size ≤ δ));have U:=Aside0.mk ((by rw[hg];exact(Qj (by repeat(first|(with_reducible first|exact HB.out|apply Qe|apply Qa|apply Qf)|exact HB.out))):w.heap.size ≤ δ));clear HB;have HB:=D;have ε :=I;have η :=O;have ζ :=U;clear D I O U;clear hb hbox hg;obtain⟨ae,af,ag,a3,ah,ai,aj,a4⟩:=qD4 ε.out))
    go_ret
    exact⟨by first|rfl|(simp[Qo,Qn] <;> rfl)|(simp[*,Qo,Qn] <;> rfl),by repeat(first|(with_reducible first|exact HB.out|apply Qe|apply Qa|apply Qf|refine Qg ?_ ζ.out)|exact HB.out)⟩
  ·rw[if_neg c3] at H
   have c3b0:decide (J≤1099511627776)=false:=decide_eq_false c3
   clear c3
   obtain rfl:=Option.some.inj H
   go_enter Tryd.func21,Tryd.ntmps21
   go_wp2_with (first|((with_reducible refine Qz (N:=1) rfl ?_);(try(refine Zw (by rfl) ?_;dsimp only));refine Q7 ?hg (N:=1) ?hd (cs:=#[.int .i64 J,.int .i64 Y,.int .i64 X,.slice Z B.length γ]) (t:=26) ?hr ?_;(case hd=>rfl);(case hg=>rfl);(case hr=>first|(go_simp;done)|(go_simp;rfl));intro δ hg a9 hbox hb;have D:=Aside0.mk (Qr (by repeat(first|(with_reducible first|exact HB.out|apply Qe|apply Qa|apply Qf)|exact HB.out)) hb);have I:=Aside0.mk (hbox);have O:=Aside0.mk ((by rw[hg];exact(Qj (by repeat(first|(with_reducible first|exact HB.out|apply Qe|apply Qa|apply Qf)|exact HB.out))):w.heap.size ≤ δ));have U:=Aside0.mk ((by rw[hg];exact(Qj (by repeat(first|(with_reducible first|exact HB.out|apply Qe|apply Qa|apply Qf)|exact HB.out))):w.heap.size ≤ δ));clear HB;have HB:=D;have ε :=I;have η :=O;have ζ :=U;clear D I O U;clear hb hbox hg;obtain⟨b7,b9,ba,bc,bg,bh,bi,bj⟩:=qD4 ε.out))
   go_ret
   exact⟨by first|rfl|(simp[Qo,Qn] <;> rfl)|(simp[*,Qo,Qn] <;> rfl),by repeat(first|(with_reducible first|exact HB.out|apply Qe|apply Qa|apply Qf|refine Qg ?_ ζ.out)|exact HB.out)⟩
 ·rw[if_neg c2] at H
  have c2b0:decide (1≤J)=false:=decide_eq_false c2
  clear c2
  obtain rfl:=Option.some.inj H
  go_enter Tryd.func21,Tryd.ntmps21
  go_wp2_with (first|((with_reducible refine Qz (N:=1) rfl ?_);(try(refine Zw (by rfl) ?_;dsimp only));refine Q7 ?hg (N:=1) ?hd (cs:=#[.int .i64 J,.int .i64 Y,.int .i64 X,.slice Z B.length γ]) (t:=26) ?hr ?_;(case hd=>rfl);(case hg=>rfl);(case hr=>first|(go_simp;done)|(go_simp;rfl));intro δ hg gy hbox hb;have D:=Aside0.mk (Qr (by repeat(first|(with_reducible first|exact HB.out|apply Qe|apply Qa|apply Qf)|exact HB.out)) hb);have I:=Aside0.mk (hbox);have O:=Aside0.mk ((by rw[hg];exact(Qj (by repeat(first|(with_reducible first|exact HB.out|apply Qe|apply Qa|apply Qf)|exact HB.out))):w.heap.size ≤ δ));have U:=Aside0.mk ((by rw[hg];exact(Qj (by repeat(first|(with_reducible first|exact HB.out|apply Qe|apply Qa|apply Qf)|exact HB.out))):w.heap.size ≤ δ));clear HB;have HB:=D;have ε :=I;have η :=O;have ζ :=U;clear D I O U;clear hb hbox hg;obtain⟨br,bs,a5,a8,bu,bv,aa,ab⟩:=qD4 ε.out))
  go_ret
  exact⟨by first|rfl|(simp[Qo,Qn] <;> rfl)|(simp[*,Qo,Qn] <;> rfl),by repeat(first|(with_reducible first|exact HB.out|apply Qe|apply Qa|apply Qf|refine Qg ?_ ζ.out)|exact HB.out)⟩
def newellaw12_Own.f (J:List Int) (B:List Int):Option (List Int×List Int):=(some (([]:List Int):List Int)).bind fun a2=>(if a2.length+J.length<140737488355328 then ((some (([]:List Int):List Int)).bind fun χ =>(if χ.length+B.length<140737488355328 then (some ((a2++J),(χ ++ B))) else (none))) else (none))
def newellaw12_Own.T1:Bool×List (List Nat×List Nat):=(true,[([],[]),([],[]),([1],[1]),([0,2],[0,2]),([],[]),([],[]),([5],[5]),([4,6,3],[4,6]),([3,7],[3,7]),([8,7,0,1,2,3,4,5,6,7,8],[8])])
def newellaw12_Own.B1:List Nat:=[0,0,2,7,0,0,32,127,255,511]
theorem newellaw12_Own.tab1:rtab .any (opsOf Tryd.f12 1)=newellaw12_Own.T1:=by kernel_rfl
theorem newellaw12_Own.bits1:Yb newellaw12_Own.T1.2 newellaw12_Own.B1=true:=by kernel_rfl
set_option maxHeartbeats 8000000 in
set_option maxRecDepth 100000 in
theorem newellaw12_Own.calls (γ:Option Addr) (δ :Nat) (J:List Int) (Y:Option Addr) (Z:Nat) (B:List Int) (r1:List Int) (r2:List Int) (w:World) (dd:Kd.C (Kd.int .u8) w γ J.length J) (de:J.length ≤ δ) (df:Kd.C (Kd.int .u8) w Y B.length B) (dh:B.length≤Z) (h:newellaw12_Own.f J B=some (r1,r2)):
  Calls Tryd.prog 12 #[.agg #[.slice γ J.length δ,.slice Y B.length Z]] w fun e w'=>∃ ak f7:Value,e = .returned (.agg #[ak,f7])∧Kd.R (Kd.int .u8) 5 w' w.heap.size (fun k_=>some k_≠(f7:Value).ownBlock) ak r1∧Kd.R (Kd.int .u8) 5 w' w.heap.size (fun k_=>some k_≠(ak:Value).ownBlock) f7 r2∧Below w.heap.size w w':=by
 have iv:=Tryd.underlying24
 have ct:=Aside0.mk dd
 have d7:=Aside0.mk de
 clear dd de
 have cv:=Aside0.mk df
 have cz:=Aside0.mk dh
 clear df dh
 have HB:=Aside0.mk (Below.refl w.heap.size w)
 have H:((some (([]:List Int):List Int)).bind fun a2=>(if a2.length+J.length<140737488355328 then ((some (([]:List Int):List Int)).bind fun χ =>(if χ.length+B.length<140737488355328 then (some ((a2++J),(χ ++ B))) else (none))) else (none)))=some (r1,r2):=h
 clear h
 obtain⟨a2,aa⟩:∃ y_:List Int,y_=(([]:List Int)):=⟨_,rfl⟩
 replace H:(if a2.length+J.length<140737488355328 then ((some (([]:List Int):List Int)).bind fun χ =>(if χ.length+B.length<140737488355328 then (some ((a2++J),(χ ++ B))) else (none))) else (none))=some (r1,r2):=by first|(rw[aa];with_reducible exact H)|(have φ :=(Option.bind_some _ _).symm.trans H;rw[aa];with_reducible exact φ)|(have φ :=(Option.bind_some _ _).symm.trans H;with_reducible exact φ)|with_reducible exact H|(rw[aa];exact H)|exact H
 have ah:=Aside0.mk aa
 clear aa
 by_cases c2:a2.length+J.length<140737488355328
 ·rw[if_pos c2] at H
  have al:=Aside0.mk c2
  clear c2
  obtain⟨a4,ab⟩:∃ y_:List Int,y_=(a2++J):=⟨_,rfl⟩
  replace H:((some (([]:List Int):List Int)).bind fun χ =>(if χ.length+B.length<140737488355328 then (some (a4,(χ ++ B))) else (none)))=some (r1,r2):=by first|(rw[ab];with_reducible exact H)|(have φ :=(Option.bind_some _ _).symm.trans H;rw[ab];with_reducible exact φ)|(have φ :=(Option.bind_some _ _).symm.trans H;with_reducible exact φ)|with_reducible exact H|(rw[ab];exact H)|exact H
  have ai:=Aside0.mk ab
  clear ab
  obtain⟨χ,ac⟩:∃ y_:List Int,y_=(([]:List Int)):=⟨_,rfl⟩
  replace H:(if χ.length+B.length<140737488355328 then (some (a4,(χ ++ B))) else (none))=some (r1,r2):=by first|(rw[ac];with_reducible exact H)|(have φ :=(Option.bind_some _ _).symm.trans H;rw[ac];with_reducible exact φ)|(have φ :=(Option.bind_some _ _).symm.trans H;with_reducible exact φ)|with_reducible exact H|(rw[ac];exact H)|exact H
  have a8:=Aside0.mk ac
  clear ac
  by_cases c3: χ.length+B.length<140737488355328
  ·rw[if_pos c3] at H
   have am:=Aside0.mk c3
   clear c3
   obtain⟨aj,ae⟩:∃ y_:List Int,y_=(χ ++ B):=⟨_,rfl⟩
   replace H:(some (a4,aj))=some (r1,r2):=by first|(rw[ae];with_reducible exact H)|(have φ :=(Option.bind_some _ _).symm.trans H;rw[ae];with_reducible exact φ)|(have φ :=(Option.bind_some _ _).symm.trans H;with_reducible exact φ)|with_reducible exact H|(rw[ae];exact H)|exact H
   have ao:=Aside0.mk ae
   clear ae
   simp only[Option.some.injEq,Prod.mk.injEq] at H
   obtain⟨rfl,rfl⟩:=H
   go_enter Tryd.func12,Tryd.ntmps12
   try go_wp2_with (first|((with_reducible refine Qz (N:=1) rfl ?_);refine Q7 ?hg (N:=1) ?hd (cs:=#[.slice γ J.length δ,.slice Y B.length Z]) (t:=24) ?hr ?_;(case hd=>rfl);(case hg=>rfl);(case hr=>first|(go_simp;done)|(go_simp;rfl));intro ι hg w4 hbox hb;have D:=Aside0.mk (Qr (by repeat(first|(with_reducible first|exact HB.out|apply Qe|apply Qa|apply Qf)|exact HB.out)) hb);have I:=Aside0.mk (hbox);have O:=Aside0.mk ((by rw[hg];exact(Qj (by repeat(first|(with_reducible first|exact HB.out|apply Qe|apply Qa|apply Qf)|exact HB.out))):w.heap.size ≤ ι));have U:=Aside0.mk ((by rw[hg];exact(Qj (by repeat(first|(with_reducible first|exact HB.out|apply Qe|apply Qa|apply Qf)|exact HB.out))):w.heap.size ≤ ι));clear HB;have HB:=D;have X:=I;have b1:=O;have θ :=U;clear D I O U;clear hb hbox hg)|((with_reducible refine Qz (N:=2) rfl ?_);refine Q7 ?hg (N:=2) ?hd (cs:=#[.slice none 0 0,.slice none 0 0]) (t:=24) ?hr ?_;(case hd=>rfl);(case hg=>rfl);(case hr=>first|(go_simp;done)|(go_simp;rfl));intro η hg w5 hbox hb;have D:=Aside0.mk (Qp (g:= ι) (o:=.cells #[.slice γ J.length δ,.slice Y B.length Z] 24 (0,0)) (by(with_reducible repeat first|apply Qb|apply Qd|apply Qc);exact X.out) hb);have I:=Aside0.mk (Qr (by repeat(first|(with_reducible first|exact HB.out|apply Qe|apply Qa|apply Qf|refine Qg ?_ θ.out)|exact HB.out)) hb);have O:=Aside0.mk (hbox);have U:=Aside0.mk ((by rw[hg];exact(Qj (by repeat(first|(with_reducible first|exact HB.out|apply Qe|apply Qa|apply Qf|refine Qg ?_ θ.out)|exact HB.out))):w.heap.size ≤ η));have ε :=Aside0.mk ((by rw[hg];exact(Qj (by repeat(first|(with_reducible first|exact HB.out|apply Qe|apply Qa|apply Qf|refine Qg ?_ θ.out)|exact HB.out))):w.heap.size ≤ η));have ν :=Aside0.mk ((by rw[hg];exact Nat.ne_of_lt (Q8 (g:= ι) (o:=.cells #[.slice γ J.length δ,.slice Y B.length Z] 24 (0,0)) (by(with_reducible repeat first|apply Qb|apply Qd|apply Qc);exact X.out)): ι ≠ η));have ρ:=Aside0.mk ((by rw[hg];exact Nat.ne_of_gt (Q8 (g:= ι) (o:=.cells #[.slice γ J.length δ,.slice Y B.length Z] 24 (0,0)) (by(with_reducible repeat first|apply Qb|apply Qd|apply Qc);exact X.out)): η ≠ ι));clear X;clear HB;have X:=D;have HB:=I;have ζ :=O;have b2:=U;have κ := ε;have a1:= ν;have ag:=ρ;clear D I O U ε ν ρ;clear hb hbox hg))
   have D:=Aside0.mk (Qd X.out)
   have I:=Aside0.mk (Qd ζ.out)
   have O:=Aside0.mk (Qf HB.out)
   clear X
   clear ζ
   clear HB
   have X:=D
   have ζ :=I
   have HB:=O
   clear D I O
   refine Yp (n:=10) (S:=fun w'=>w'.cell? ⟨ι,0,none⟩=some (.slice γ J.length δ)∧w'.cell? ⟨ι,1,none⟩=some (.slice Y B.length Z)) (ds:=[]) #[false,false,false,false,false,false,false,false,false,false] kr rfl rfl ⟨(Q3 X.out 0).trans rfl,(Q3 X.out 1).trans rfl⟩ (fun hHeld=>?_);refine Xh newellaw12_Own.tab1 newellaw12_Own.bits1 (fun HT_ HW_=>?_)
   generalize w5.drew=w6 at X ζ HB hHeld ⊢
   refine qP 1 (some 4) (qB 10 2) HT_ ?_
   refine qP 5 (some 8) (qB 10 34) HT_ ?_
   refine qT 2 (some 5) (qB 10 38) HT_ HW_ hHeld ?_
   refine qT 6 (some 9) (qB 10 102) HT_ HW_ hHeld ?_
   refine Wm (σ:=Value×Value×Value) 3 #[true,true,true,true,true,true,true,false,false,false] (fun s_=>[(3,s_.1),(6,s_.2.1),(7,s_.2.2)]) (fun s_ w'=>(w'.cell? ⟨ι,0,none⟩=some (.slice γ J.length δ)∧w'.cell? ⟨ι,1,none⟩=some (.slice Y B.length Z))∧(Kd.R (Kd.int .u8) 5 w' w.heap.size (fun k_=>some k_≠(s_.2.2:Value).ownBlock) s_.2.1 a4)∧(Kd.R (Kd.int .u8) 5 w' w.heap.size (fun k_=>some k_≠(s_.2.1:Value).ownBlock) s_.2.2 χ)∧(w'.heap[ι]?=some (.cells #[.slice γ J.length δ,.slice Y B.length Z] 24 (0,0)))∧(w'.heap[η]?=some (.cells #[.slice none 0 0,.slice none 0 0] 24 (0,0)))∧(Below w.heap.size w w')) ?_ ?_
   rotate_left
   ·intro hCont
    refine Uq (i:=0) (j:=4) (Ni:=some 3) (Nj:=some 7) #[true,true,true,false,false,true,true,false,false,false] #[false,true,true,false,true,true,true,false,false,false] rfl rfl rfl rfl (Ju HT_.out kr) (by decide) (by decide) (fun K hK=>?_) (fun K hK=>?_)
    ·skip
     refine Kd.Yl (Kd.int .u8) _ 5 ?hg (N:=3) ?hd (xs:=([]:List Int)) (inner:=[]) (ok:=fun _=>True) (okp:=fun _=>True) ?hr ?hp (fun _ hk=>hk) trivial (Below.refl _ _) (Nat.le_refl _) (by simp) ?_;(case hd=>rfl);(case hg=>rfl);(case hr=>first|(go_simp;done)|(go_simp;rfl));(case hp=>exact(Reps.none _ _))
     intro a6 w7 a7 hb hg_ hnew_
     clear hg_ hnew_
     (first|rw[← ah.out] at a7|(simp only[Int.reduceToNat] at a7;rw[← ah.out] at a7))
     have D:=Aside0.mk (Kd.Zd a7 (Qj (by repeat(first|(with_reducible first|exact HB.out|apply Qe|apply Qa|apply Qf|refine Qg ?_ θ.out|refine Qg ?_ κ.out)|exact HB.out))))
     have I:=Aside0.mk (Qp (g:= ι) (o:=.cells #[.slice γ J.length δ,.slice Y B.length Z] 24 (0,0)) (by(with_reducible repeat first|apply Qb|apply Qd|apply Qc);exact X.out) hb)
     have O:=Aside0.mk (Qp (g:= η) (o:=.cells #[.slice none 0 0,.slice none 0 0] 24 (0,0)) (by(with_reducible repeat first|apply Qb|apply Qd|apply Qc);exact ζ.out) hb)
     have U:=Aside0.mk (Qr (by repeat(first|(with_reducible first|exact HB.out|apply Qe|apply Qa|apply Qf|refine Qg ?_ θ.out|refine Qg ?_ κ.out)|exact HB.out)) hb)
     clear X
     clear ζ
     clear HB
     have ξ :=D
     have X:=I
     have ζ :=O
     have HB:=U
     clear D I O U
     clear hb a7
     refine hK.out _ _ ⟨qc X,qc X⟩ (fun hHeld=>?_)
     clear hK K
     refine qN (some 3) ?_
     refine Uq (i:=3) (j:=4) (Ni:=some 6) (Nj:=some 7) #[true,true,true,true,false,true,true,false,false,false] #[true,true,true,false,true,true,true,false,false,false] rfl rfl rfl rfl (Ju HT_.out kr) (by decide) (by decide) (fun K hK=>?_) (fun K hK=>?_)
     ·skip
      refine Kd.Xr (Kd.int .u8) (w0:=w) w.heap.size (by rfl) (.tmp 3) (.tmp 5) 22 5 (.int .u8 0) 1 rfl Tryd.underlying22 Zx rfl (by decide) (by omega) a6 a2 J _ _ _ (fun _=>True) (fun _=>False) rfl rfl ?aO ?aR (fun _ _ h=>h) (fun _ h=>h.elim) ?aF ?aB ?aS ?aL ?_
      (case aR=>repeat(first|exact(Kd.Zb ct.out HB.out)|(with_reducible refine Kd.Zc ?_ _)|(with_reducible refine Kd.Za ?_ _)|(with_reducible refine Kd.Zh ?_)))
      (case aB=>exact(by repeat(first|(with_reducible first|exact HB.out|apply Qe|apply Qa|apply Qf|refine Qg ?_ θ.out|refine Qg ?_ κ.out)|exact HB.out)))
      (case aF=>exact(fun _ _=>trivial))
      (case aO=>exact(by(with_reducible repeat first|apply Kd.Qi|apply Kd.Qh|apply Kd.Ql);exact ξ.out))
      (case aS=>exact(Qj (by repeat(first|(with_reducible first|exact HB.out|apply Qe|apply Qa|apply Qf|refine Qg ?_ θ.out|refine Qg ?_ κ.out)|exact HB.out))))
      (case aL=>have:=al.out;omega)
      intro a5 w9 ho hb hg hat
      rw[← ai.out] at ho
      have D:=Aside0.mk (Z2 (g:= ι) (o:=.cells #[.slice γ J.length δ,.slice Y B.length Z] 24 (0,0)) (by(with_reducible repeat first|apply Qb|apply Qd|apply Qc);exact X.out) hg (Kd.Y5 ξ.out X.out (by decide)))
      have I:=Aside0.mk (Z2 (g:= η) (o:=.cells #[.slice none 0 0,.slice none 0 0] 24 (0,0)) (by(with_reducible repeat first|apply Qb|apply Qd|apply Qc);exact ζ.out) hg (Kd.Y5 ξ.out ζ.out (by decide)))
      have O:=Aside0.mk (hb)
      have U:=Aside0.mk (ho)
      clear X
      clear ζ
      clear HB
      clear ξ
      have X:=D
      have ζ :=I
      have HB:=O
      have τ :=U
      clear D I O U
      clear ho hb hg hat
      refine hK.out _ _ ⟨qc X,qc X⟩ (fun hHeld=>?_)
      clear hK K
      refine qN (some 6) ?_
      refine Ye (i:=4) (N:=some 7) #[true,true,true,true,true,true,true,false,false,false] rfl rfl (Z3 HT_.out kr) (by decide) (fun K hK=>?_)
      refine Kd.Yl (Kd.int .u8) _ 5 ?hg (N:=7) ?hd (xs:=([]:List Int)) (inner:=[]) (ok:=fun _=>True) (okp:=fun _=>True) ?hr ?hp (fun _ hk=>hk) trivial (Below.refl _ _) (Nat.le_refl _) (by simp) ?_;(case hd=>rfl);(case hg=>rfl);(case hr=>first|(go_simp;done)|(go_simp;rfl));(case hp=>exact(Reps.none _ _))
      intro a3 gh af hb hg_ hnew_
      clear hg_ hnew_
      (first|rw[← a8.out] at af|(simp only[Int.reduceToNat] at af;rw[← a8.out] at af))
      have D:=Aside0.mk (Kd.Zj (by(with_reducible repeat first|apply Kd.Qi|apply Kd.Qh|apply Kd.Ql);exact τ.out) (Kd.Q5 af) hb)
      have I:=Aside0.mk (Kd.Zd (Kd.Zi af (Kd.Zp (by(with_reducible repeat first|apply Kd.Qi|apply Kd.Qh|apply Kd.Ql);exact τ.out))) (Qj (by repeat(first|(with_reducible first|exact HB.out|apply Qe|apply Qa|apply Qf|refine Qg ?_ θ.out|refine Qg ?_ κ.out)|exact HB.out))))
      have O:=Aside0.mk (Qp (g:= ι) (o:=.cells #[.slice γ J.length δ,.slice Y B.length Z] 24 (0,0)) (by(with_reducible repeat first|apply Qb|apply Qd|apply Qc);exact X.out) hb)
      have U:=Aside0.mk (Qp (g:= η) (o:=.cells #[.slice none 0 0,.slice none 0 0] 24 (0,0)) (by(with_reducible repeat first|apply Qb|apply Qd|apply Qc);exact ζ.out) hb)
      have ε :=Aside0.mk (Qr (by repeat(first|(with_reducible first|exact HB.out|apply Qe|apply Qa|apply Qf|refine Qg ?_ θ.out|refine Qg ?_ κ.out)|exact HB.out)) hb)
      clear τ
      clear X
      clear ζ
      clear HB
      have τ :=D
      have μ :=I
      have X:=O
      have ζ :=U
      have HB:= ε
      clear D I O U ε
      clear hb af
      refine hK.out _ _ ⟨qc X,qc X⟩ (fun hHeld=>?_)
      clear hK K
      refine qN (some 7) ?_
      exact Yt (by simp only[Xv,Act.put,qS]) (hCont (a6,a5,a3) _ ⟨hHeld,(by(with_reducible repeat first|apply Kd.Qi|apply Kd.Qh|apply Kd.Ql);exact Kd.Qu τ.out (fun _ hk=>hk.2)),(by(with_reducible repeat first|apply Kd.Qi|apply Kd.Qh|apply Kd.Ql);exact Kd.Qu μ.out (fun _ hk=>hk.2)),(by(with_reducible repeat first|apply Qb|apply Qd|apply Qc);exact X.out),(by(with_reducible repeat first|apply Qb|apply Qd|apply Qc);exact ζ.out),(by repeat(first|(with_reducible first|exact HB.out|apply Qe|apply Qa|apply Qf|refine Qg ?_ θ.out|refine Qg ?_ κ.out)|exact HB.out))⟩)
     ·skip
      refine Kd.Yl (Kd.int .u8) _ 5 ?hg (N:=7) ?hd (xs:=([]:List Int)) (inner:=[]) (ok:=fun _=>True) (okp:=fun _=>True) ?hr ?hp (fun _ hk=>hk) trivial (Below.refl _ _) (Nat.le_refl _) (by simp) ?_;(case hd=>rfl);(case hg=>rfl);(case hr=>first|(go_simp;done)|(go_simp;rfl));(case hp=>exact(Reps.none _ _))
      intro a3 w9 ψ hb hg_ hnew_
      clear hg_ hnew_
      (first|rw[← a8.out] at ψ |(simp only[Int.reduceToNat] at ψ;rw[← a8.out] at ψ))
      have D:=Aside0.mk (Kd.Zj (by(with_reducible repeat first|apply Kd.Qi|apply Kd.Qh|apply Kd.Ql);exact ξ.out) (Kd.Q5 ψ) hb)
      have I:=Aside0.mk (Kd.Zd (Kd.Zi ψ (Kd.Zp (by(with_reducible repeat first|apply Kd.Qi|apply Kd.Qh|apply Kd.Ql);exact ξ.out))) (Qj (by repeat(first|(with_reducible first|exact HB.out|apply Qe|apply Qa|apply Qf|refine Qg ?_ θ.out|refine Qg ?_ κ.out)|exact HB.out))))
      have O:=Aside0.mk (Qp (g:= ι) (o:=.cells #[.slice γ J.length δ,.slice Y B.length Z] 24 (0,0)) (by(with_reducible repeat first|apply Qb|apply Qd|apply Qc);exact X.out) hb)
      have U:=Aside0.mk (Qp (g:= η) (o:=.cells #[.slice none 0 0,.slice none 0 0] 24 (0,0)) (by(with_reducible repeat first|apply Qb|apply Qd|apply Qc);exact ζ.out) hb)
      have ε :=Aside0.mk (Qr (by repeat(first|(with_reducible first|exact HB.out|apply Qe|apply Qa|apply Qf|refine Qg ?_ θ.out|refine Qg ?_ κ.out)|exact HB.out)) hb)
      clear ξ
      clear X
      clear ζ
      clear HB
      have ξ :=D
      have μ :=I
      have X:=O
      have ζ :=U
      have HB:= ε
      clear D I O U ε
      clear hb ψ
      refine hK.out _ _ ⟨qc X,qc X⟩ (fun hHeld=>?_)
      clear hK K
      refine qN (some 7) ?_
      refine Ye (i:=3) (N:=some 6) #[true,true,true,true,true,true,true,false,false,false] rfl rfl (Z3 HT_.out kr) (by decide) (fun K hK=>?_)
      refine Kd.Xr (Kd.int .u8) (w0:=w) w.heap.size (by rfl) (.tmp 3) (.tmp 5) 22 5 (.int .u8 0) 1 rfl Tryd.underlying22 Zx rfl (by decide) (by omega) a6 a2 J _ _ _ (fun k_=>some k_≠(a3:Value).ownBlock) (fun _=>False) rfl rfl ?aO ?aR (fun _ _ h=>h) (fun _ h=>h.elim) ?aF ?aB ?aS ?aL ?_
      (case aR=>repeat(first|exact(Kd.Zb ct.out HB.out)|(with_reducible refine Kd.Zc ?_ _)|(with_reducible refine Kd.Za ?_ _)|(with_reducible refine Kd.Zh ?_)))
      (case aB=>exact(by repeat(first|(with_reducible first|exact HB.out|apply Qe|apply Qa|apply Qf|refine Qg ?_ θ.out|refine Qg ?_ κ.out)|exact HB.out)))
      (case aF=>exact(fun k_ hk=>Kd.fresh' (Kd.Zp (by(with_reducible repeat first|apply Kd.Qi|apply Kd.Qh|apply Kd.Ql);exact μ.out)) k_ hk))
      (case aO=>exact(by(with_reducible repeat first|apply Kd.Qi|apply Kd.Qh|apply Kd.Ql);exact Kd.Qu ξ.out (fun _ hk=>hk.2)))
      (case aS=>exact(Qj (by repeat(first|(with_reducible first|exact HB.out|apply Qe|apply Qa|apply Qf|refine Qg ?_ θ.out|refine Qg ?_ κ.out)|exact HB.out))))
      (case aL=>have:=al.out;omega)
      intro a5 nq ho hb hg hat
      rw[← ai.out] at ho
      have D:=Aside0.mk (Z2 (g:= ι) (o:=.cells #[.slice γ J.length δ,.slice Y B.length Z] 24 (0,0)) (by(with_reducible repeat first|apply Qb|apply Qd|apply Qc);exact X.out) hg (Kd.Y5 ξ.out X.out (by decide)))
      have I:=Aside0.mk (Z2 (g:= η) (o:=.cells #[.slice none 0 0,.slice none 0 0] 24 (0,0)) (by(with_reducible repeat first|apply Qb|apply Qd|apply Qc);exact ζ.out) hg (Kd.Y5 ξ.out ζ.out (by decide)))
      have O:=Aside0.mk (Kd.Ym (ok:=(fun _=>True)) (by(with_reducible repeat first|apply Kd.Qi|apply Kd.Qh|apply Kd.Ql);exact μ.out) hg hat)
      have U:=Aside0.mk (hb)
      have ε :=Aside0.mk (ho)
      clear X
      clear ζ
      clear μ
      clear HB
      clear ξ
      have X:=D
      have ζ :=I
      have μ :=O
      have HB:=U
      have τ := ε
      clear D I O U ε
      clear ho hb hg hat
      refine hK.out _ _ ⟨qc X,qc X⟩ (fun hHeld=>?_)
      clear hK K
      refine qN (some 6) ?_
      exact Yt (by simp only[Xv,Act.put,qS]) (hCont (a6,a5,a3) _ ⟨hHeld,(by(with_reducible repeat first|apply Kd.Qi|apply Kd.Qh|apply Kd.Ql);exact τ.out),(by(with_reducible repeat first|apply Kd.Qi|apply Kd.Qh|apply Kd.Ql);exact Kd.Qu μ.out (fun _ hk=>hk.2)),(by(with_reducible repeat first|apply Qb|apply Qd|apply Qc);exact X.out),(by(with_reducible repeat first|apply Qb|apply Qd|apply Qc);exact ζ.out),(by repeat(first|(with_reducible first|exact HB.out|apply Qe|apply Qa|apply Qf|refine Qg ?_ θ.out|refine Qg ?_ κ.out)|exact HB.out))⟩)
    ·skip
     refine Kd.Yl (Kd.int .u8) _ 5 ?hg (N:=7) ?hd (xs:=([]:List Int)) (inner:=[]) (ok:=fun _=>True) (okp:=fun _=>True) ?hr ?hp (fun _ hk=>hk) trivial (Below.refl _ _) (Nat.le_refl _) (by simp) ?_;(case hd=>rfl);(case hg=>rfl);(case hr=>first|(go_simp;done)|(go_simp;rfl));(case hp=>exact(Reps.none _ _))
     intro a3 w7 a7 hb hg_ hnew_
     clear hg_ hnew_
     (first|rw[← a8.out] at a7|(simp only[Int.reduceToNat] at a7;rw[← a8.out] at a7))
     have D:=Aside0.mk (Kd.Zd a7 (Qj (by repeat(first|(with_reducible first|exact HB.out|apply Qe|apply Qa|apply Qf|refine Qg ?_ θ.out|refine Qg ?_ κ.out)|exact HB.out))))
     have I:=Aside0.mk (Qp (g:= ι) (o:=.cells #[.slice γ J.length δ,.slice Y B.length Z] 24 (0,0)) (by(with_reducible repeat first|apply Qb|apply Qd|apply Qc);exact X.out) hb)
     have O:=Aside0.mk (Qp (g:= η) (o:=.cells #[.slice none 0 0,.slice none 0 0] 24 (0,0)) (by(with_reducible repeat first|apply Qb|apply Qd|apply Qc);exact ζ.out) hb)
     have U:=Aside0.mk (Qr (by repeat(first|(with_reducible first|exact HB.out|apply Qe|apply Qa|apply Qf|refine Qg ?_ θ.out|refine Qg ?_ κ.out)|exact HB.out)) hb)
     clear X
     clear ζ
     clear HB
     have μ :=D
     have X:=I
     have ζ :=O
     have HB:=U
     clear D I O U
     clear hb a7
     refine hK.out _ _ ⟨qc X,qc X⟩ (fun hHeld=>?_)
     clear hK K
     refine qN (some 7) ?_
     refine Ye (i:=0) (N:=some 3) #[true,true,true,false,true,true,true,false,false,false] rfl rfl (Z3 HT_.out kr) (by decide) (fun K hK=>?_)
     refine Kd.Yl (Kd.int .u8) _ 5 ?hg (N:=3) ?hd (xs:=([]:List Int)) (inner:=[]) (ok:=fun _=>True) (okp:=fun _=>True) ?hr ?hp (fun _ hk=>hk) trivial (Below.refl _ _) (Nat.le_refl _) (by simp) ?_;(case hd=>rfl);(case hg=>rfl);(case hr=>first|(go_simp;done)|(go_simp;rfl));(case hp=>exact(Reps.none _ _))
     intro a6 w9 ψ hb hg_ hnew_
     clear hg_ hnew_
     (first|rw[← ah.out] at ψ |(simp only[Int.reduceToNat] at ψ;rw[← ah.out] at ψ))
     have D:=Aside0.mk (Kd.Zj (by(with_reducible repeat first|apply Kd.Qi|apply Kd.Qh|apply Kd.Ql);exact μ.out) (Kd.Q5 ψ) hb)
     have I:=Aside0.mk (Kd.Zd (Kd.Zi ψ (Kd.Zp (by(with_reducible repeat first|apply Kd.Qi|apply Kd.Qh|apply Kd.Ql);exact μ.out))) (Qj (by repeat(first|(with_reducible first|exact HB.out|apply Qe|apply Qa|apply Qf|refine Qg ?_ θ.out|refine Qg ?_ κ.out)|exact HB.out))))
     have O:=Aside0.mk (Qp (g:= ι) (o:=.cells #[.slice γ J.length δ,.slice Y B.length Z] 24 (0,0)) (by(with_reducible repeat first|apply Qb|apply Qd|apply Qc);exact X.out) hb)
     have U:=Aside0.mk (Qp (g:= η) (o:=.cells #[.slice none 0 0,.slice none 0 0] 24 (0,0)) (by(with_reducible repeat first|apply Qb|apply Qd|apply Qc);exact ζ.out) hb)
     have ε :=Aside0.mk (Qr (by repeat(first|(with_reducible first|exact HB.out|apply Qe|apply Qa|apply Qf|refine Qg ?_ θ.out|refine Qg ?_ κ.out)|exact HB.out)) hb)
     clear μ
     clear X
     clear ζ
     clear HB
     have μ :=D
     have ξ :=I
     have X:=O
     have ζ :=U
     have HB:= ε
     clear D I O U ε
     clear hb ψ
     refine hK.out _ _ ⟨qc X,qc X⟩ (fun hHeld=>?_)
     clear hK K
     refine qN (some 3) ?_
     refine Ye (i:=3) (N:=some 6) #[true,true,true,true,true,true,true,false,false,false] rfl rfl (Z3 HT_.out kr) (by decide) (fun K hK=>?_)
     refine Kd.Xr (Kd.int .u8) (w0:=w) w.heap.size (by rfl) (.tmp 3) (.tmp 5) 22 5 (.int .u8 0) 1 rfl Tryd.underlying22 Zx rfl (by decide) (by omega) a6 a2 J _ _ _ (fun k_=>some k_≠(a3:Value).ownBlock) (fun _=>False) rfl rfl ?aO ?aR (fun _ _ h=>h) (fun _ h=>h.elim) ?aF ?aB ?aS ?aL ?_
     (case aR=>repeat(first|exact(Kd.Zb ct.out HB.out)|(with_reducible refine Kd.Zc ?_ _)|(with_reducible refine Kd.Za ?_ _)|(with_reducible refine Kd.Zh ?_)))
     (case aB=>exact(by repeat(first|(with_reducible first|exact HB.out|apply Qe|apply Qa|apply Qf|refine Qg ?_ θ.out|refine Qg ?_ κ.out)|exact HB.out)))
     (case aF=>exact(fun k_ hk=>Kd.fresh' (Kd.Zp (by(with_reducible repeat first|apply Kd.Qi|apply Kd.Qh|apply Kd.Ql);exact μ.out)) k_ hk))
     (case aO=>exact(by(with_reducible repeat first|apply Kd.Qi|apply Kd.Qh|apply Kd.Ql);exact Kd.Qu ξ.out (fun _ hk=>hk.2)))
     (case aS=>exact(Qj (by repeat(first|(with_reducible first|exact HB.out|apply Qe|apply Qa|apply Qf|refine Qg ?_ θ.out|refine Qg ?_ κ.out)|exact HB.out))))
     (case aL=>have:=al.out;omega)
     intro a5 nq ho hb hg hat
     rw[← ai.out] at ho
     have D:=Aside0.mk (Z2 (g:= ι) (o:=.cells #[.slice γ J.length δ,.slice Y B.length Z] 24 (0,0)) (by(with_reducible repeat first|apply Qb|apply Qd|apply Qc);exact X.out) hg (Kd.Y5 ξ.out X.out (by decide)))
     have I:=Aside0.mk (Z2 (g:= η) (o:=.cells #[.slice none 0 0,.slice none 0 0] 24 (0,0)) (by(with_reducible repeat first|apply Qb|apply Qd|apply Qc);exact ζ.out) hg (Kd.Y5 ξ.out ζ.out (by decide)))
     have O:=Aside0.mk (Kd.Ym (ok:=(fun _=>True)) (by(with_reducible repeat first|apply Kd.Qi|apply Kd.Qh|apply Kd.Ql);exact μ.out) hg hat)
     have U:=Aside0.mk (hb)
     have ε :=Aside0.mk (ho)
     clear X
     clear ζ
     clear μ
     clear HB
     clear ξ
     have X:=D
     have ζ :=I
     have μ :=O
     have HB:=U
     have τ := ε
     clear D I O U ε
     clear ho hb hg hat
     refine hK.out _ _ ⟨qc X,qc X⟩ (fun hHeld=>?_)
     clear hK K
     refine qN (some 6) ?_
     exact Yt (by simp only[Xv,Act.put,qS]) (hCont (a6,a5,a3) _ ⟨hHeld,(by(with_reducible repeat first|apply Kd.Qi|apply Kd.Qh|apply Kd.Ql);exact τ.out),(by(with_reducible repeat first|apply Kd.Qi|apply Kd.Qh|apply Kd.Ql);exact Kd.Qu μ.out (fun _ hk=>hk.2)),(by(with_reducible repeat first|apply Qb|apply Qd|apply Qc);exact X.out),(by(with_reducible repeat first|apply Qb|apply Qd|apply Qc);exact ζ.out),(by repeat(first|(with_reducible first|exact HB.out|apply Qe|apply Qa|apply Qf|refine Qg ?_ θ.out|refine Qg ?_ κ.out)|exact HB.out))⟩)
   rintro⟨a6,a5,a3⟩ a9 ⟨hS_,g2,g3,g4,g5,g6⟩
   have D:Aside0 (Kd.R (Kd.int .u8) 5 a9 w.heap.size (fun k_=>some k_≠(a3:Value).ownBlock) a5 a4):=⟨g2⟩
   have I:Aside0 (Kd.R (Kd.int .u8) 5 a9 w.heap.size (fun k_=>some k_≠(a5:Value).ownBlock) a3 χ):=⟨g3⟩
   have O:Aside0 (a9.heap[ι]?=some (.cells #[.slice γ J.length δ,.slice Y B.length Z] 24 (0,0))):=⟨g4⟩
   have U:Aside0 (a9.heap[η]?=some (.cells #[.slice none 0 0,.slice none 0 0] 24 (0,0))):=⟨g5⟩
   have ε :Aside0 (Below w.heap.size w a9):=⟨g6⟩
   clear X
   clear ζ
   clear HB
   clear g2 g3 g4 g5 g6
   have τ :=D
   have μ :=I
   have X:=O
   have ζ :=U
   have HB:= ε
   clear D I O U ε
   have hHeld:a9.cell? ⟨ι,0,none⟩=some (.slice γ J.length δ)∧a9.cell? ⟨ι,1,none⟩=some (.slice Y B.length Z):=hS_
   refine Yt (a':=?_) ?_ ?_
   rotate_left
   ·simp only[Xv,Act.put,qS]
    rfl
   refine Ye (i:=7) (N:=some 10) #[true,true,true,true,true,true,true,true,false,false] rfl rfl (Z3 HT_.out kr) (by decide) (fun K hK=>?_)
   refine Kd.Xr (Kd.int .u8) (w0:=w) w.heap.size (by rfl) (.tmp 7) (.tmp 9) 22 5 (.int .u8 0) 1 rfl Tryd.underlying22 Zx rfl (by decide) (by omega) a3 χ B _ _ _ (fun k_=>some k_≠(a5:Value).ownBlock) (fun _=>False) rfl rfl ?aO ?aR (fun _ _ h=>h) (fun _ h=>h.elim) ?aF ?aB ?aS ?aL ?_
   (case aR=>repeat(first|exact(Kd.Zb cv.out HB.out)|(with_reducible refine Kd.Zc ?_ _)|(with_reducible refine Kd.Za ?_ _)|(with_reducible refine Kd.Zh ?_)))
   (case aB=>exact(by repeat(first|(with_reducible first|exact HB.out|apply Qe|apply Qa|apply Qf|refine Qg ?_ θ.out|refine Qg ?_ κ.out)|exact HB.out)))
   (case aF=>exact(fun k_ hk=>Kd.fresh' (Kd.Zp (by(with_reducible repeat first|apply Kd.Qi|apply Kd.Qh|apply Kd.Ql);exact τ.out)) k_ hk))
   (case aO=>exact(by(with_reducible repeat first|apply Kd.Qi|apply Kd.Qh|apply Kd.Ql);exact μ.out))
   (case aS=>exact(Qj (by repeat(first|(with_reducible first|exact HB.out|apply Qe|apply Qa|apply Qf|refine Qg ?_ θ.out|refine Qg ?_ κ.out)|exact HB.out))))
   (case aL=>have:=am.out;omega)
   intro b5 bj ho hb hg hat
   rw[← ao.out] at ho
   have D:=Aside0.mk (Z2 (g:= ι) (o:=.cells #[.slice γ J.length δ,.slice Y B.length Z] 24 (0,0)) (by(with_reducible repeat first|apply Qb|apply Qd|apply Qc);exact X.out) hg (Kd.Y5 μ.out X.out (by decide)))
   have I:=Aside0.mk (Z2 (g:= η) (o:=.cells #[.slice none 0 0,.slice none 0 0] 24 (0,0)) (by(with_reducible repeat first|apply Qb|apply Qd|apply Qc);exact ζ.out) hg (Kd.Y5 μ.out ζ.out (by decide)))
   have O:=Aside0.mk (Kd.Ym (ok:=(fun _=>True)) (by(with_reducible repeat first|apply Kd.Qi|apply Kd.Qh|apply Kd.Ql);exact Kd.Qu τ.out (fun _ hk=>⟨trivial,hk⟩)) hg hat)
   have U:=Aside0.mk (hb)
   have ε :=Aside0.mk (ho)
   clear X
   clear ζ
   clear τ
   clear HB
   clear μ
   have X:=D
   have ζ :=I
   have τ :=O
   have HB:=U
   have an:= ε
   clear D I O U ε
   clear ho hb hg hat
   obtain⟨ω,a0,cx⟩:=Kd.Zf an.out
   (first|subst cx|(injection cx with ax br ay;have bs:=ax.symm;have bu:=ay.symm;clear ax br ay;subst bs;subst bu))
   obtain⟨ap,ar,au⟩:=Kd.Zf τ.out
   (first|subst au|(injection au with ax br ay;have bs:=ax.symm;have bu:=ay.symm;clear ax br ay;subst bs;subst bu))
   refine hK.out _ _ ⟨qc X,qc X⟩ (fun hHeld=>?_)
   clear hK K
   refine qN (some 10) ?_
   refine qP 8 (some 11) (qB 10 511) HT_ ?_
   refine Ye (i:=9) (N:=none) #[true,true,true,true,true,true,true,true,true,true] rfl rfl (Z3 HT_.out kr) (by decide) (fun K hK=>?_)
   have b6:bj.cell? ⟨η,0,none⟩=some (.slice none 0 0):=(Q3 ζ.out 0).trans rfl
   have b3:=Q6 ζ.out 0
   have av:=a1.out
   have aw:=ag.out
   have b7:bj.cell? ⟨η,1,none⟩=some (.slice none 0 0):=(Q3 ζ.out 1).trans rfl
   have b4:=Q6 ζ.out 1
   have az:=a1.out
   have b0:=ag.out
   refine J0 (w1:=?_) (by rfl) rfl ?_ ?_
   rotate_left
   ·go_simp
    rfl
   refine hK.out _ _ ⟨((cell_far (p:=⟨η,_,none⟩) a1.out _).trans (((cell_far (p:=⟨η,_,none⟩) a1.out _).trans (hHeld.1)))),((cell_far (p:=⟨η,_,none⟩) a1.out _).trans (((cell_far (p:=⟨η,_,none⟩) a1.out _).trans (hHeld.2))))⟩ (fun hHeld=>?_)
   clear hK K
   refine Jc (Yi HT_.out kr) ?_
   try go_wp2
   refine bodyPost_ret (results_cell_row rfl _ _ η 24 #[.slice ap a4.length ar,.slice ω aj.length a0] (0,0) _ rfl (by(with_reducible repeat first|apply Qb|apply Qd|apply Qc);refine Qk (cs:=#[.slice ap a4.length ar,.slice none 0 0]) ?_ 1 _ rfl;(with_reducible repeat first|apply Qb|apply Qd|apply Qc);refine Qk (cs:=#[.slice none 0 0,.slice none 0 0]) ?_ 0 _ rfl;(with_reducible repeat first|apply Qb|apply Qd|apply Qc);exact ζ.out) Tryd.underlying24 rfl kr) rfl ?_
   exact⟨_,_,by first|rfl|(simp[Qo,Qn] <;> rfl)|(simp[*,Qo,Qn] <;> rfl),by(with_reducible repeat first|apply Kd.Qi|apply Kd.Qh|apply Kd.Ql);exact Kd.Qu (Kd.Qm (p:=⟨η,1,none⟩) (Kd.Qm (p:=⟨η,0,none⟩) (Kd.Qy τ.out ζ.out (by decide)) (fun _ hk=>hk.2) (.slice ap a4.length ar)) (fun _ hk=>hk.2) (.slice ω aj.length a0)) (fun _ hk=>hk.1.2),by(with_reducible repeat first|apply Kd.Qi|apply Kd.Qh|apply Kd.Ql);exact Kd.Qu (Kd.Qm (p:=⟨η,1,none⟩) (Kd.Qm (p:=⟨η,0,none⟩) (Kd.Qy an.out ζ.out (by decide)) (fun _ hk=>hk.2) (.slice ap a4.length ar)) (fun _ hk=>hk.2) (.slice ω aj.length a0)) (fun _ hk=>hk.1),by repeat(first|(with_reducible first|exact HB.out|apply Qe|apply Qa|apply Qf|refine Qg ?_ θ.out|refine Qg ?_ κ.out)|exact HB.out)⟩
  ·rw[if_neg c3] at H
   exact absurd H (by simp)
 ·rw[if_neg c2] at H
  exact absurd H (by simp)
def newelref12_Few.f (J:List Int) (B:List Int):Option (Bool):=if (J.length:Int)≤5000 then (some (decide ((B.length:Int)≤5000))) else (some false)
set_option maxHeartbeats 8000000 in
set_option maxRecDepth 100000 in
theorem newelref12_Few.calls (γ:Option Addr) (δ :Nat) (J:List Int) (Y:Option Addr) (Z:Nat) (B:List Int) (r:Bool) (w:World) (dd:Kd.C (Kd.int .u8) w γ J.length J) (de:J.length ≤ δ) (df:Kd.C (Kd.int .u8) w Y B.length B) (dh:B.length≤Z) (h:newelref12_Few.f J B=some r):
  Calls Tryd.prog 9 #[.agg #[.slice γ J.length δ,.slice Y B.length Z]] w fun e w'=>e = .returned (.bool r)∧Below w.heap.size w w':=by
 have iv:=Tryd.underlying24
 have ct:=Aside0.mk dd
 have d7:=Aside0.mk de
 clear dd de
 have cv:=Aside0.mk df
 have cz:=Aside0.mk dh
 clear df dh
 have HB:=Aside0.mk (Below.refl w.heap.size w)
 have H:(if (J.length:Int)≤5000 then (some (decide ((B.length:Int)≤5000))) else (some false))=some r:=h
 clear h
 by_cases c2:(J.length:Int)≤5000
 ·rw[if_pos c2] at H
  have c2b0:decide ((J.length:Int)≤5000)=true:=decide_eq_true c2
  have c2b1:decide (J.length≤5000)=true:=decide_eq_true (by omega)
  clear c2
  obtain rfl:=Option.some.inj H
  go_enter Tryd.func9,Tryd.ntmps9
  go_wp2_with (first|((with_reducible refine Qz (N:=1) rfl ?_);(try(refine Zw (by rfl) ?_;dsimp only));refine Q7 ?hg (N:=1) ?hd (cs:=#[.slice γ J.length δ,.slice Y B.length Z]) (t:=24) ?hr ?_;(case hd=>rfl);(case hg=>rfl);(case hr=>first|(go_simp;done)|(go_simp;rfl));intro X hg w3 hbox hb;have D:=Aside0.mk (Qr (by repeat(first|(with_reducible first|exact HB.out|apply Qe|apply Qa|apply Qf)|exact HB.out)) hb);have I:=Aside0.mk (hbox);have O:=Aside0.mk ((by rw[hg];exact(Qj (by repeat(first|(with_reducible first|exact HB.out|apply Qe|apply Qa|apply Qf)|exact HB.out))):w.heap.size≤X));have U:=Aside0.mk ((by rw[hg];exact(Qj (by repeat(first|(with_reducible first|exact HB.out|apply Qe|apply Qa|apply Qf)|exact HB.out))):w.heap.size≤X));clear HB;have HB:=D;have ε :=I;have η :=O;have ζ :=U;clear D I O U;clear hb hbox hg;obtain⟨ch,ci,ck,cu⟩:=qD2 ε.out))
  go_ret
  exact⟨by first|rfl|(simp[Qo,Qn] <;> rfl)|(simp[*,Qo,Qn] <;> rfl),by repeat(first|(with_reducible first|exact HB.out|apply Qe|apply Qa|apply Qf|refine Qg ?_ ζ.out)|exact HB.out)⟩
 ·rw[if_neg c2] at H
  have c2b0:decide ((J.length:Int)≤5000)=false:=decide_eq_false c2
  have c2b1:decide (J.length≤5000)=false:=decide_eq_false (by omega)
  clear c2
  obtain rfl:=Option.some.inj H
  go_enter Tryd.func9,Tryd.ntmps9
  go_wp2_with (first|((with_reducible refine Qz (N:=1) rfl ?_);(try(refine Zw (by rfl) ?_;dsimp only));refine Q7 ?hg (N:=1) ?hd (cs:=#[.slice γ J.length δ,.slice Y B.length Z]) (t:=24) ?hr ?_;(case hd=>rfl);(case hg=>rfl);(case hr=>first|(go_simp;done)|(go_simp;rfl));intro X hg w5 hbox hb;have D:=Aside0.mk (Qr (by repeat(first|(with_reducible first|exact HB.out|apply Qe|apply Qa|apply Qf)|exact HB.out)) hb);have I:=Aside0.mk (hbox);have O:=Aside0.mk ((by rw[hg];exact(Qj (by repeat(first|(with_reducible first|exact HB.out|apply Qe|apply Qa|apply Qf)|exact HB.out))):w.heap.size≤X));have U:=Aside0.mk ((by rw[hg];exact(Qj (by repeat(first|(with_reducible first|exact HB.out|apply Qe|apply Qa|apply Qf)|exact HB.out))):w.heap.size≤X));clear HB;have HB:=D;have ε :=I;have η :=O;have ζ :=U;clear D I O U;clear hb hbox hg;obtain⟨θ,ι,κ,μ⟩:=qD2 ε.out))
  go_ret
  exact⟨by first|rfl|(simp[Qo,Qn] <;> rfl)|(simp[*,Qo,Qn] <;> rfl),by repeat(first|(with_reducible first|exact HB.out|apply Qe|apply Qa|apply Qf|refine Qg ?_ ζ.out)|exact HB.out)⟩
def newelref08_value.l0:Nat→List Int→Int→Int→Option (Int)
 |0,_,_,_=>none
 |k+1,O,I,B=>if B≥0 then (if 0≤B then (if B<(O.length:Int) then (newelref08_value.l0 k O (IntKind.u64.wrap ((IntKind.u64.wrap (I * 128))+(IntKind.u64.wrap (Int.tmod (rd O B) 128)))) (wrap64 (B-1))) else (none)) else (none)) else (if (Int.tmod I 2)=1 then (some (wrap64 ((-1) - (wrap64 (IntKind.u64.wrap (Int.tdiv I 2)))))) else (some (wrap64 (IntKind.u64.wrap (Int.tdiv I 2)))))
def newelref08_value.f (k:Nat) (l0:List Int):Option (Int):=newelref08_value.l0 k l0 0 (wrap64 ((l0.length:Int)-1))
theorem newelref08_value.Zl:∀ k,(∀ B I J,LeO (newelref08_value.l0 k B I J) (newelref08_value.l0 (k+1) B I J))
 |0=>fun _ _ _ r h=>by simp[newelref08_value.l0] at h
 |k+1=>by
  have D:=newelref08_value.Zl k
  ·intro B I J
   unfold newelref08_value.l0
   repeat' first
   |(with_reducible exact D _ _ _)
   |(with_reducible exact LeO.refl _)
   |(with_reducible exact LeO.none _)
   |(with_reducible refine LeO.ite ?_ ?_)
   |(with_reducible refine LeO.bind ?_ (fun _=>?_))
   |exact D _ _ _
   |exact LeO.none _
   |refine LeO.ite ?_ ?_
   |refine LeO.bind ?_ (fun _=>?_)
theorem newelref08_value.mono:∀ J k,LeO (newelref08_value.f k J) (newelref08_value.f (k+1) J):=by
 intro J k
 have D:=newelref08_value.Zl k
 unfold newelref08_value.f
 repeat' first
   |(with_reducible exact D _ _ _)
   |(with_reducible exact LeO.refl _)
   |(with_reducible exact LeO.none _)
   |(with_reducible refine LeO.ite ?_ ?_)
   |(with_reducible refine LeO.bind ?_ (fun _=>?_))
   |exact D _ _ _
   |exact LeO.none _
   |refine LeO.ite ?_ ?_
   |refine LeO.bind ?_ (fun _=>?_)
set_option maxHeartbeats 8000000 in
set_option maxRecDepth 100000 in
theorem newelref08_value.calls (k:Nat) (A0:Option Addr) (c0:Nat) (l0:List Int) (r:Int) (w:World) (ξ :Kd.C (Kd.int .u8) w A0 l0.length l0) (κ :l0.length≤c0) (h:newelref08_value.f k l0=some r):
  Calls Tryd.prog 46 #[.slice A0 l0.length c0] w fun e w'=>e = .returned (.int .i64 r)∧Drawn0 w w':=by
 have δ :=Aside0.mk ξ
 have ω :=Aside0.mk κ
 clear ξ κ
 have H:(newelref08_value.l0 k l0 0 (wrap64 ((l0.length:Int)-1)))=some r:=h
 clear h
 have H':=Aside0.mk H
 clear H
 go_enter Tryd.func46,Tryd.ntmps46
 go_wp2
 go_loopg [3,4] k (fun kq v3 v4 w'=>∃ (B:Int) (U:Int),v3 = .int .u64 B∧v4 = .int .i64 U∧Aside0 (newelref08_value.l0 kq l0 B U=some r)∧Aside0 (kq≤k)∧Drawn0 w w')
 case atStart=>exact⟨(0),(wrap64 ((l0.length:Int)-1)),qR,qR,H',⟨Nat.le_refl _⟩,by repeat(first|exact Drawn0.refl _|apply Drawn0.step)⟩
 case round=>
  clear H'
  obtain⟨B,U,rfl,rfl,HA,Y,⟨m1,rfl⟩⟩:=hrel
  cases gk with
  |zero=>exact absurd HA.out (by simp[newelref08_value.l0])
  |succ k1=>
   have H:=HA.out
   clear HA
   simp only[newelref08_value.l0] at H
   by_cases c2:U≥0
   ·rw[if_pos c2] at H
    have c2b0:decide (0≤U)=true:=decide_eq_true c2
    clear c2
    by_cases c3:0≤U
    ·rw[if_pos c3] at H
     have c3b0:decide (0≤U)=true:=decide_eq_true c3
     clear c3
     by_cases c4:U<(l0.length:Int)
     ·rw[if_pos c4] at H
      have c4b0:decide (U<(l0.length:Int))=true:=decide_eq_true c4
      clear c4
      have H':=Aside0.mk H
      clear H
      have D:0≤(U:Int):=of_decide_eq_true (by first|(with_reducible assumption)|assumption)
      have I:U<(l0.length:Int):=of_decide_eq_true (by first|(with_reducible assumption)|assumption)
      obtain⟨X,J,O⟩:=Kd.Zr δ.out U D I
      cases J
      replace D:=eq_true D
      replace I:=eq_true I
      go_wp2
      go_roundg k1
      case measure=>have:=Y.out;omega
      case rel=>exact⟨(IntKind.u64.wrap ((IntKind.u64.wrap (B * 128))+(IntKind.u64.wrap (Int.tmod (rd l0 U) 128)))),(wrap64 (U-1)),qR,qR,H',⟨by have:=Y.out;omega⟩,by repeat(first|exact Drawn0.refl _|apply Drawn0.step)⟩
     ·rw[if_neg c4] at H
      exact absurd H (by simp)
    ·rw[if_neg c3] at H
     exact absurd H (by simp)
   ·rw[if_neg c2] at H
    have c2b0:decide (0≤U)=false:=decide_eq_false c2
    clear c2
    by_cases c5:(Int.tmod B 2)=1
    ·rw[if_pos c5] at H
     have c5b0:((Int.tmod B 2)==1)=true:=beq_iff_eq.mpr c5
     have c5b1:((Int.tmod B 2) != 1)=false:=bne_eq_false_iff_eq.mpr c5
     clear c5
     obtain rfl:=Option.some.inj H
     go_wp2
     go_ret
     exact⟨qR,by repeat(first|exact Drawn0.refl _|apply Drawn0.step)⟩
    ·rw[if_neg c5] at H
     have c5b0:((Int.tmod B 2)==1)=false:=beq_eq_false_iff_ne.mpr c5
     have c5b1:((Int.tmod B 2) != 1)=true:=bne_iff_ne.mpr c5
     obtain rfl:=Option.some.inj H
     go_wp2
     go_ret
     exact⟨qR,by repeat(first|exact Drawn0.refl _|apply Drawn0.step)⟩
mutual
def newelref08_Get.j0:Nat→List Int→Int→Bool→Option (Int×Int×Int)
 |0,_,_,_=>none
 |k+1,O,U,J=>if J=true then (some (0,0,80)) else (newelref08_Get.l0 k O U 0)
def newelref08_Get.l0:Nat→List Int→Int→Int→Option (Int×Int×Int)
 |0,_,_,_=>none
 |k+1,O,U,I=>if (wrap64 (U+I))<(O.length:Int) then (if 0≤(wrap64 (U+I)) then (if I=9 then (newelref08_Get.j2 k O U I (rd O (wrap64 (U+I))) (decide ((rd O (wrap64 (U+I)))>1))) else (newelref08_Get.j2 k O U I (rd O (wrap64 (U+I))) false)) else (none)) else (some (0,0,81))
def newelref08_Get.j2:Nat→List Int→Int→Int→Int→Bool→Option (Int×Int×Int)
 |0,_,_,_,_,_=>none
 |k+1,O,U,I,J,D=>if D=true then (some (0,0,82)) else (if J≥128 then (newelref08_Get.l0 k O U (wrap64 (I+1))) else (if I>0 then (if J=0 then (some (0,0,82)) else (if 0≤U then (if U≤(wrap64 ((wrap64 (U+I))+1)) then (if (wrap64 ((wrap64 (U+I))+1))≤(O.length:Int) then ((newelref08_value.f k ((O.take ((wrap64 ((wrap64 (U+I))+1)):Int).toNat).drop (U:Int).toNat)).bind fun ι =>(some (ι,wrap64 ((wrap64 (U+I))+1),0))) else (none)) else (none)) else (none))) else (if 0≤U then (if U≤(wrap64 ((wrap64 (U+I))+1)) then (if (wrap64 ((wrap64 (U+I))+1))≤(O.length:Int) then ((newelref08_value.f k ((O.take ((wrap64 ((wrap64 (U+I))+1)):Int).toNat).drop (U:Int).toNat)).bind fun μ =>(some (μ,wrap64 ((wrap64 (U+I))+1),0))) else (none)) else (none)) else (none))))
end
def newelref08_Get.f (k:Nat) (l0:List Int) (B:Int):Option (Int×Int×Int):=if B<0 then (newelref08_Get.j0 k l0 B true) else (newelref08_Get.j0 k l0 B (decide (B>(l0.length:Int))))
theorem newelref08_Get.Zl:∀ k,(∀ B I J,LeO (newelref08_Get.j0 k B I J) (newelref08_Get.j0 (k+1) B I J))∧(∀ B I J,LeO (newelref08_Get.l0 k B I J) (newelref08_Get.l0 (k+1) B I J))∧(∀ B I J U Y,LeO (newelref08_Get.j2 k B I J U Y) (newelref08_Get.j2 (k+1) B I J U Y))
 |0=>⟨fun _ _ _ r h=>by simp[newelref08_Get.j0] at h,fun _ _ _ r h=>by simp[newelref08_Get.l0] at h,fun _ _ _ _ _ r h=>by simp[newelref08_Get.j2] at h⟩
 |k+1=>by
  obtain⟨D,O,X⟩:=newelref08_Get.Zl k
  refine⟨?_, ?_, ?_⟩
  ·intro B I J
   unfold newelref08_Get.j0
   repeat' first
   |(with_reducible exact D _ _ _)
   |(with_reducible exact O _ _ _)
   |(with_reducible exact X _ _ _ _ _)
   |(with_reducible exact newelref08_value.mono _ _)
   |(with_reducible exact LeO.refl _)
   |(with_reducible exact LeO.none _)
   |(with_reducible refine LeO.ite ?_ ?_)
   |(with_reducible refine LeO.bind ?_ (fun _=>?_))
   |exact D _ _ _
   |exact O _ _ _
   |exact X _ _ _ _ _
   |exact newelref08_value.mono _ _
   |exact LeO.none _
   |refine LeO.ite ?_ ?_
   |refine LeO.bind ?_ (fun _=>?_)
  ·intro B I J
   unfold newelref08_Get.l0
   repeat' first
   |(with_reducible exact D _ _ _)
   |(with_reducible exact O _ _ _)
   |(with_reducible exact X _ _ _ _ _)
   |(with_reducible exact newelref08_value.mono _ _)
   |(with_reducible exact LeO.refl _)
   |(with_reducible exact LeO.none _)
   |(with_reducible refine LeO.ite ?_ ?_)
   |(with_reducible refine LeO.bind ?_ (fun _=>?_))
   |exact D _ _ _
   |exact O _ _ _
   |exact X _ _ _ _ _
   |exact newelref08_value.mono _ _
   |exact LeO.none _
   |refine LeO.ite ?_ ?_
   |refine LeO.bind ?_ (fun _=>?_)
  ·intro B I J U Y
   unfold newelref08_Get.j2
   repeat' first
   |(with_reducible exact D _ _ _)
   |(with_reducible exact O _ _ _)
   |(with_reducible exact X _ _ _ _ _)
   |(with_reducible exact newelref08_value.mono _ _)
   |(with_reducible exact LeO.refl _)
   |(with_reducible exact LeO.none _)
   |(with_reducible refine LeO.ite ?_ ?_)
   |(with_reducible refine LeO.bind ?_ (fun _=>?_))
   |exact D _ _ _
   |exact O _ _ _
   |exact X _ _ _ _ _
   |exact newelref08_value.mono _ _
   |exact LeO.none _
   |refine LeO.ite ?_ ?_
   |refine LeO.bind ?_ (fun _=>?_)
theorem newelref08_Get.mono:∀ J B k,LeO (newelref08_Get.f k J B) (newelref08_Get.f (k+1) J B):=by
 intro J B k
 obtain⟨D,O,X⟩:=newelref08_Get.Zl k
 unfold newelref08_Get.f
 repeat' first
   |(with_reducible exact D _ _ _)
   |(with_reducible exact O _ _ _)
   |(with_reducible exact X _ _ _ _ _)
   |(with_reducible exact newelref08_value.mono _ _)
   |(with_reducible exact LeO.refl _)
   |(with_reducible exact LeO.none _)
   |(with_reducible refine LeO.ite ?_ ?_)
   |(with_reducible refine LeO.bind ?_ (fun _=>?_))
   |exact D _ _ _
   |exact O _ _ _
   |exact X _ _ _ _ _
   |exact newelref08_value.mono _ _
   |exact LeO.none _
   |refine LeO.ite ?_ ?_
   |refine LeO.bind ?_ (fun _=>?_)
set_option maxHeartbeats 8000000 in
set_option maxRecDepth 100000 in
theorem newelref08_Get.calls (k:Nat) (A0:Option Addr) (c0:Nat) (l0:List Int) (B:Int) (r1:Int) (r2:Int) (r3:Int) (w:World) (ξ :Kd.C (Kd.int .u8) w A0 l0.length l0) (κ :l0.length≤c0) (h:newelref08_Get.f k l0 B=some (r1,r2,r3)):
  Calls Tryd.prog 39 #[.slice A0 l0.length c0,.int .i64 B] w fun e w'=>e = .returned (.agg #[.int .i64 r1,.int .i64 r2,.int .i64 r3])∧Below w.heap.size w w':=by
 have en:=Tryd.underlying75
 have δ :=Aside0.mk ξ
 have ω :=Aside0.mk κ
 clear ξ κ
 have HB:=Aside0.mk (Below.refl w.heap.size w)
 have H:(if B<0 then (newelref08_Get.j0 k l0 B true) else (newelref08_Get.j0 k l0 B (decide (B>(l0.length:Int)))))=some (r1,r2,r3):=h
 clear h
 have a5:=Aside0.mk H
 clear H
 go_enter Tryd.func39,Tryd.ntmps39
 go_upto_region 1 with(first|((with_reducible refine Qz (N:=4) rfl ?_);(try(refine Zw (by rfl) ?_;dsimp only));refine Q7 ?hg (N:=4) ?hd (cs:=#[.int .i64 0,.int .i64 0,.int .i64 0]) (t:=75) ?hr ?_;(case hd=>rfl);(case hg=>rfl);(case hr=>first|(go_simp;done)|(go_simp;rfl));intro θ hg w4 hbox hb;have D:=Aside0.mk (Qr (by repeat(first|(with_reducible first|exact HB.out|apply Qe|apply Qa|apply Qf)|exact HB.out)) hb);have I:=Aside0.mk (hbox);have O:=Aside0.mk ((by rw[hg];exact(Qj (by repeat(first|(with_reducible first|exact HB.out|apply Qe|apply Qa|apply Qf)|exact HB.out))):w.heap.size ≤ θ));have U:=Aside0.mk ((by rw[hg];exact(Qj (by repeat(first|(with_reducible first|exact HB.out|apply Qe|apply Qa|apply Qf)|exact HB.out))):w.heap.size ≤ θ));clear HB;have HB:=D;have γ:=I;have b4:=O;have η :=U;clear D I O U;clear hb hbox hg))
 (try simp only[Act.put,qS])
 go_cut [14] (fun gw wc=>∃ (kq:Nat) (a4:Bool),gw = .bool a4∧Aside0 (newelref08_Get.j0 kq l0 B a4=some (r1,r2,r3))∧Aside0 (kq≤k)∧Aside0 (wc.heap[θ]?=some (.cells #[.int .i64 0,.int .i64 0,.int .i64 0] 75 (0,0)))∧Aside0 (Below w.heap.size w wc))
 case first=>
  have H:=a5.out
  clear a5
  by_cases c5:B<0
  ·rw[if_pos c5] at H
   have c5b0:decide (B<0)=true:=decide_eq_true c5
   clear c5
   (first|rw[c5b0]|(simp only[Zu,Z4];rw[c5b0])|skip)
   have H':=Aside0.mk H
   clear H
   go_wp2
   go_meet
   case rel=>exact⟨_,(true),qR,H',⟨by first|omega|exact Nat.le_refl _⟩,⟨by(with_reducible repeat first|apply Qb|apply Qd|apply Qc);exact γ.out⟩,⟨by repeat(first|(with_reducible first|exact HB.out|apply Qe|apply Qa|apply Qf|refine Qg ?_ η.out)|exact HB.out)⟩⟩
  ·rw[if_neg c5] at H
   have c5b0:decide (B<0)=false:=decide_eq_false c5
   clear c5
   (first|rw[c5b0]|(simp only[Zu,Z4];rw[c5b0])|skip)
   have H':=Aside0.mk H
   clear H
   go_wp2
   go_meet
   case rel=>exact⟨_,(decide (B>(l0.length:Int))),qR,H',⟨by first|omega|exact Nat.le_refl _⟩,⟨by(with_reducible repeat first|apply Qb|apply Qd|apply Qc);exact γ.out⟩,⟨by repeat(first|(with_reducible first|exact HB.out|apply Qe|apply Qa|apply Qf|refine Qg ?_ η.out)|exact HB.out)⟩⟩
 case rest=>
  clear a5
  try clear p2
  try clear c3
  try clear c5
  try clear c5b0
  obtain⟨kq,a4,rfl,HA,a8,γ,HB⟩:=hcut
  cases kq with
  |zero=>exact absurd HA.out (by simp[newelref08_Get.j0])
  |succ ρ=>
   have H:=HA.out
   clear HA
   simp only[newelref08_Get.j0] at H
   by_cases c6:a4=true
   ·subst c6
    have H1:(some (0,0,80))=some (r1,r2,r3):=by rw[if_pos rfl] at H;exact H
    clear H
    have H:=H1
    clear H1
    simp only[Option.some.injEq,Prod.mk.injEq] at H
    obtain⟨rfl,rfl,rfl⟩:=H
    obtain⟨σ,τ,φ,χ,ψ,a2⟩:=qD3 γ.out
    go_wp2
    refine bodyPost_ret (results_cell_row rfl _ _ θ 75 #[.int .i64 0,.int .i64 0,.int .i64 80] (0,0) _ rfl (by(with_reducible repeat first|apply Qb|apply Qd|apply Qc);refine Qk (cs:=#[.int .i64 0,.int .i64 0,.int .i64 0]) ?_ 2 _ rfl;(with_reducible repeat first|apply Qb|apply Qd|apply Qc);refine Qk (cs:=#[.int .i64 0,.int .i64 0,.int .i64 0]) ?_ 1 _ rfl;(with_reducible repeat first|apply Qb|apply Qd|apply Qc);refine Qk (cs:=#[.int .i64 0,.int .i64 0,.int .i64 0]) ?_ 0 _ rfl;(with_reducible repeat first|apply Qb|apply Qd|apply Qc);exact γ.out) Tryd.underlying75 rfl kr) rfl ?_
    exact⟨by first|rfl|(simp[Qo,Qn] <;> rfl)|(simp[*,Qo,Qn] <;> rfl),by repeat(first|(with_reducible first|exact HB.out|apply Qe|apply Qa|apply Qf|refine Qg ?_ η.out)|exact HB.out)⟩
   ·replace c6:=Bool.eq_false_iff.mpr c6
    subst c6
    have H1:(newelref08_Get.l0 ρ l0 B 0)=some (r1,r2,r3):=by rw[if_neg (show ¬ (false=true) by decide)] at H;exact H
    clear H
    have H:=H1
    clear H1
    have H':=Aside0.mk H
    clear H
    go_wp2
    go_loopg [5] ρ (fun kq v5 w'=>∃ (X:Int) (ε :Int) (Y:Int) (J:Int),v5 = .int .i64 X∧Aside0 (newelref08_Get.l0 kq l0 B X=some (r1,r2,r3))∧Aside0 (kq≤ρ)∧Aside0 (w'.heap[θ]?=some (.cells #[.int .i64 ε,.int .i64 Y,.int .i64 J] 75 (0,0)))∧Aside0 (Below w.heap.size w w'))
    case atStart=>exact⟨(0),(0),(0),(0),qR,H',⟨Nat.le_refl _⟩,⟨by(with_reducible repeat first|apply Qb|apply Qd|apply Qc);exact γ.out⟩,⟨by repeat(first|(with_reducible first|exact HB.out|apply Qe|apply Qa|apply Qf|refine Qg ?_ η.out)|exact HB.out)⟩⟩
    case round=>
     clear H'
     try clear p2
     try clear c3
     try clear c5
     try clear c5b0
     try clear c6
     try clear σ
     try clear τ
     try clear φ
     try clear χ
     try clear ψ
     try clear a2
     try clear p2
     obtain⟨X,ε,Y,J,rfl,HA,ar,γ,HB⟩:=hrel
     cases gk with
     |zero=>exact absurd HA.out (by simp[newelref08_Get.l0])
     |succ k2=>
      have H:=HA.out
      clear HA
      simp only[newelref08_Get.l0] at H
      by_cases c8:(wrap64 (B+X))<(l0.length:Int)
      ·rw[if_pos c8] at H
       have c8b0:decide ((wrap64 (B+X))<(l0.length:Int))=true:=decide_eq_true c8
       clear c8
       obtain⟨Z,ζ⟩:∃ j_:Int,(wrap64 (B+X))=j_:=⟨_,rfl⟩
       replace H:(if 0≤(Z) then (if X=9 then (newelref08_Get.j2 k2 l0 B X (rd l0 (Z)) (decide ((rd l0 (Z))>1))) else (newelref08_Get.j2 k2 l0 B X (rd l0 (Z)) false)) else (none))=some (r1,r2,r3):=by first|(rw[ζ] at H;exact H)|(simp only[ζ] at H ⊢;exact H)
       (try rw[ζ] at c8b0)
       have hji9w:(IntKind.i64.wrap (B+X))=Z:=(Zu _).trans ζ
       by_cases c10:0≤(Z)
       ·rw[if_pos c10] at H
        have c10b0:decide (0≤(Z))=true:=decide_eq_true c10
        clear c10
        have a9:=Aside0.mk H
        clear H
        have a6:0≤((Z):Int):=of_decide_eq_true (by first|(with_reducible assumption)|assumption)
        have a7:(Z)<(l0.length:Int):=of_decide_eq_true (by first|(with_reducible assumption)|assumption)
        obtain⟨aa,ap,ν⟩:=Kd.Zr δ.out (Z) a6 a7
        cases ap
        replace ν :=(HB.out.cell (World.block_lt_of_cell? w _ ν)).trans ν
        replace a6:=eq_true a6
        replace a7:=eq_true a7
        go_upto_region 7 with(fail)
        go_cut [35] (fun d5 wc=>∃ (kq:Nat) (a0:Bool),d5 = .bool a0∧Aside0 (newelref08_Get.j2 kq l0 B X (rd l0 (Z)) a0=some (r1,r2,r3))∧Aside0 (kq≤k2)∧Aside0 (wc.heap[θ]?=some (.cells #[.int .i64 ε,.int .i64 Y,.int .i64 J] 75 (0,0)))∧Aside0 (Below w.heap.size w wc))
        case first=>
         have H:=a9.out
         clear a9
         by_cases bl:X=9
         ·rw[if_pos bl] at H
          have c12b0:(X==9)=true:=beq_iff_eq.mpr bl
          have c12b1:(X != 9)=false:=bne_eq_false_iff_eq.mpr bl
          clear bl
          (first|rw[c12b0]|(simp only[Zu,Z4];rw[c12b0])|skip)
          have H':=Aside0.mk H
          clear H
          go_wp2
          go_meet
          case rel=>exact⟨_,(decide ((rd l0 (Z))>1)),(by first|rfl|(simp;done)|(simp only[← ζ] <;> (first|rfl|simp))|(simp[*];done)),H',⟨by have:=a8.out;have:=ar.out;first|omega|exact Nat.le_refl _⟩,⟨by(with_reducible repeat first|apply Qb|apply Qd|apply Qc);exact γ.out⟩,⟨by repeat(first|(with_reducible first|exact HB.out|apply Qe|apply Qa|apply Qf|refine Qg ?_ η.out)|exact HB.out)⟩⟩
         ·rw[if_neg bl] at H
          have c12b0:(X==9)=false:=beq_eq_false_iff_ne.mpr bl
          have c12b1:(X != 9)=true:=bne_iff_ne.mpr bl
          (first|rw[c12b0]|(simp only[Zu,Z4];rw[c12b0])|skip)
          have H':=Aside0.mk H
          clear H
          go_wp2
          go_meet
          case rel=>exact⟨_,(false),qR,H',⟨by have:=a8.out;have:=ar.out;first|omega|exact Nat.le_refl _⟩,⟨by(with_reducible repeat first|apply Qb|apply Qd|apply Qc);exact γ.out⟩,⟨by repeat(first|(with_reducible first|exact HB.out|apply Qe|apply Qa|apply Qf|refine Qg ?_ η.out)|exact HB.out)⟩⟩
        case rest=>
         clear a9
         try clear c1
         try clear p2
         try clear q2
         try clear pk
         try clear c3
         try clear c5
         try clear c5b0
         try clear c6
         try clear p6
         try clear c8
         try clear c8b0
         try clear c10
         try clear c10b0
         try clear bl
         try clear c12b0
         try clear c12b1
         try clear σ
         try clear τ
         try clear φ
         try clear χ
         try clear ψ
         try clear a2
         try clear ν
         try clear p2
         try clear a6
         try clear a7
         obtain⟨kq,a0,rfl,HA,ag,γ,HB⟩:=hcut
         cases kq with
         |zero=>exact absurd HA.out (by simp[newelref08_Get.j2])
         |succ a3=>
          have H:=HA.out
          clear HA
          simp only[newelref08_Get.j2] at H
          by_cases cq:a0=true
          ·subst cq
           have H1:(some (0,0,82))=some (r1,r2,r3):=by rw[if_pos rfl] at H;exact H
           clear H
           have H:=H1
           clear H1
           simp only[Option.some.injEq,Prod.mk.injEq] at H
           obtain⟨rfl,rfl,rfl⟩:=H
           obtain⟨f8,f9,ba,fa,fb,bb⟩:=qD3 γ.out
           go_wp2
           refine bodyPost_ret (results_cell_row rfl _ _ θ 75 #[.int .i64 0,.int .i64 0,.int .i64 82] (0,0) _ rfl (by(with_reducible repeat first|apply Qb|apply Qd|apply Qc);refine Qk (cs:=#[.int .i64 0,.int .i64 0,.int .i64 J]) ?_ 2 _ rfl;(with_reducible repeat first|apply Qb|apply Qd|apply Qc);refine Qk (cs:=#[.int .i64 0,.int .i64 Y,.int .i64 J]) ?_ 1 _ rfl;(with_reducible repeat first|apply Qb|apply Qd|apply Qc);refine Qk (cs:=#[.int .i64 ε,.int .i64 Y,.int .i64 J]) ?_ 0 _ rfl;(with_reducible repeat first|apply Qb|apply Qd|apply Qc);exact γ.out) Tryd.underlying75 rfl kr) rfl ?_
           exact⟨by first|rfl|(simp[Qo,Qn] <;> rfl)|(simp only[← ζ];first|rfl|(simp[Qo,Qn] <;> rfl))|(simp[*,Qo,Qn] <;> rfl),by repeat(first|(with_reducible first|exact HB.out|apply Qe|apply Qa|apply Qf|refine Qg ?_ η.out)|exact HB.out)⟩
          ·replace cq:=Bool.eq_false_iff.mpr cq
           subst cq
           have H1:(if (rd l0 (Z))≥128 then (newelref08_Get.l0 a3 l0 B (wrap64 (X+1))) else (if X>0 then (if (rd l0 (Z))=0 then (some (0,0,82)) else (if 0≤B then (if B≤(wrap64 ((wrap64 (B+X))+1)) then (if (wrap64 ((wrap64 (B+X))+1))≤(l0.length:Int) then ((newelref08_value.f a3 ((l0.take ((wrap64 ((wrap64 (B+X))+1)):Int).toNat).drop (B:Int).toNat)).bind fun ι =>(some (ι,wrap64 ((wrap64 (B+X))+1),0))) else (none)) else (none)) else (none))) else (if 0≤B then (if B≤(wrap64 ((wrap64 (B+X))+1)) then (if (wrap64 ((wrap64 (B+X))+1))≤(l0.length:Int) then ((newelref08_value.f a3 ((l0.take ((wrap64 ((wrap64 (B+X))+1)):Int).toNat).drop (B:Int).toNat)).bind fun μ =>(some (μ,wrap64 ((wrap64 (B+X))+1),0))) else (none)) else (none)) else (none))))=some (r1,r2,r3):=by rw[if_neg (show ¬ (false=true) by decide)] at H;exact H
           clear H
           have H:=H1
           clear H1
           by_cases e4:(rd l0 (Z))≥128
           ·rw[if_pos e4] at H
            have c15b0:decide (128≤(rd l0 (Z)))=true:=decide_eq_true e4
            clear e4
            have H':=Aside0.mk H
            clear H
            go_wp2
            go_roundg a3
            case measure=>have:=a8.out;have:=ar.out;have:=ag.out;omega
            case rel=>exact⟨(wrap64 (X+1)),(ε),(Y),(J),qR,H',⟨by have:=a8.out;have:=ar.out;have:=ag.out;omega⟩,⟨by(with_reducible repeat first|apply Qb|apply Qd|apply Qc);exact γ.out⟩,⟨by repeat(first|(with_reducible first|exact HB.out|apply Qe|apply Qa|apply Qf|refine Qg ?_ η.out)|exact HB.out)⟩⟩
           ·rw[if_neg e4] at H
            have c15b0:decide (128≤(rd l0 (Z)))=false:=decide_eq_false e4
            clear e4
            by_cases dl:X>0
            ·rw[if_pos dl] at H
             have c16b0:decide (0<X)=true:=decide_eq_true dl
             clear dl
             by_cases b0:(rd l0 (Z))=0
             ·rw[if_pos b0] at H
              have c17b0:((rd l0 (Z))==0)=true:=beq_iff_eq.mpr b0
              have c17b1:((rd l0 (Z)) != 0)=false:=bne_eq_false_iff_eq.mpr b0
              clear b0
              simp only[Option.some.injEq,Prod.mk.injEq] at H
              obtain⟨rfl,rfl,rfl⟩:=H
              obtain⟨bq,bs,bu,bv,bz,ca⟩:=qD3 γ.out
              go_wp2
              refine bodyPost_ret (results_cell_row rfl _ _ θ 75 #[.int .i64 0,.int .i64 0,.int .i64 82] (0,0) _ rfl (by(with_reducible repeat first|apply Qb|apply Qd|apply Qc);refine Qk (cs:=#[.int .i64 0,.int .i64 0,.int .i64 J]) ?_ 2 _ rfl;(with_reducible repeat first|apply Qb|apply Qd|apply Qc);refine Qk (cs:=#[.int .i64 0,.int .i64 Y,.int .i64 J]) ?_ 1 _ rfl;(with_reducible repeat first|apply Qb|apply Qd|apply Qc);refine Qk (cs:=#[.int .i64 ε,.int .i64 Y,.int .i64 J]) ?_ 0 _ rfl;(with_reducible repeat first|apply Qb|apply Qd|apply Qc);exact γ.out) Tryd.underlying75 rfl kr) rfl ?_
              exact⟨by first|rfl|(simp[Qo,Qn] <;> rfl)|(simp only[← ζ];first|rfl|(simp[Qo,Qn] <;> rfl))|(simp[*,Qo,Qn] <;> rfl),by repeat(first|(with_reducible first|exact HB.out|apply Qe|apply Qa|apply Qf|refine Qg ?_ η.out)|exact HB.out)⟩
             ·rw[if_neg b0] at H
              have c17b0:((rd l0 (Z))==0)=false:=beq_eq_false_iff_ne.mpr b0
              have c17b1:((rd l0 (Z)) != 0)=true:=bne_iff_ne.mpr b0
              by_cases bp:0≤B
              ·rw[if_pos bp] at H
               have c19b0:=eq_true bp
               have c19b1:decide (0≤B)=true:=decide_eq_true bp
               clear bp
               by_cases er:B≤(wrap64 ((wrap64 (B+X))+1))
               ·rw[if_pos er] at H
                have c20b0:=eq_true er
                have c20b1:decide (B≤(wrap64 ((wrap64 (B+X))+1)))=true:=decide_eq_true er
                by_cases cf:(wrap64 ((wrap64 (B+X))+1))≤(l0.length:Int)
                ·rw[if_pos cf] at H
                 have c21b0:=eq_true cf
                 have c21b1:decide ((wrap64 ((wrap64 (B+X))+1))≤(l0.length:Int))=true:=decide_eq_true cf
                 replace H:=Option.bind_eq_some_iff.mp H
                 obtain⟨ι,m1,H⟩:=H
                 replace H:(some (ι,wrap64 ((wrap64 (B+X))+1),0))=some (r1,r2,r3):=H
                 have oc:=Aside0.mk m1
                 clear m1
                 simp only[Option.some.injEq,Prod.mk.injEq] at H
                 obtain⟨rfl,rfl,rfl⟩:=H
                 obtain⟨b5,ab,_,ac,_⟩:=info_parts Zx
                 obtain⟨mo,b1,ah,ai⟩:=J5 (P:=Tryd.prog) (Value.int .u8) 0 22 5 .i64 .i64 Tryd.underlying22 ab ac (some aa) c0 l0 B (wrap64 ((wrap64 (B+X))+1)) (of_decide_eq_true (by first|(with_reducible assumption)|assumption)) (by first|omega|exact of_decide_eq_true (by first|(with_reducible assumption)|assumption)) (of_decide_eq_true (by first|(with_reducible assumption)|assumption)) ω.out
                 have al:=Aside0.mk (Kd.Z8 (h1:=fun _=>rfl) (ah _ (Kd.Zv δ.out)))
                 have am:=Aside0.mk ai
                 clear ah ai ab ac
                 try subst ζ
                 go_wp2_with (first|((with_reducible refine Qv (f:=46) rfl ?_);refine Ze (some 53) rfl rfl Tryd.func46 kr rfl #[.slice mo ((l0.take ((wrap64 ((wrap64 (B+X))+1)):Int).toNat).drop (B:Int).toNat).length (c0-B.toNat)] rfl (by(try simp only[List.map_toArray,List.map_cons,List.map_nil]);first|done|(rw[show((l0.take ((wrap64 ((wrap64 (B+X))+1)):Int).toNat).drop (B:Int).toNat).length=((wrap64 ((wrap64 (B+X))+1)).toNat-B.toNat) from(by rw[List.length_drop,List.length_take];have h_:((wrap64 ((wrap64 (B+X))+1)):Int)≤(l0.length:Int):=of_decide_eq_true (by first|(with_reducible assumption)|assumption);omega)] <;> rfl)|rfl|(simp only[List.length_drop,List.length_take];rfl)) ?_;(with_reducible refine(newelref08_value.calls a3 _ _ ((l0.take ((wrap64 ((wrap64 (B+X))+1)):Int).toNat).drop (B:Int).toNat) ι _ ?side1 ?side2 oc.out).mono ?_);(case side1=>repeat(first|exact(Kd.Zb al.out HB.out)|(with_reducible refine Kd.Zc ?_ _)|(with_reducible refine Kd.Za ?_ _)|(with_reducible refine Kd.Zh ?_)));(case side2=>exact am.out);rintro e w' ⟨rfl,⟨nd,rfl⟩⟩;refine⟨_,rfl, ?_⟩;(try(rw[Jx wc];generalize hq_:World.drewN wc _=wc;have D:Aside0 (wc.heap[θ]?=some (.cells #[.int .i64 ε,.int .i64 Y,.int .i64 J] 75 (0,0))):=⟨by rw[← hq_];exact(by(with_reducible repeat first|apply Qb|apply Qd|apply Qc);exact γ.out)⟩;have I:Aside0 (Below w.heap.size w wc):=⟨by rw[← hq_];exact(by repeat(first|(with_reducible first|exact HB.out|apply Qe|apply Qa|apply Qf|refine Qg ?_ η.out)|exact HB.out))⟩;clear γ HB hq_;have γ:=D;have HB:=I;clear D I));obtain⟨au,av,aw,ax,ay,az⟩:=qD3 γ.out))
                 refine bodyPost_ret (results_cell_row rfl _ _ θ 75 #[.int .i64 ι,.int .i64 (wrap64 ((wrap64 (B+X))+1)),.int .i64 0] (0,0) _ rfl (by(with_reducible repeat first|apply Qb|apply Qd|apply Qc);refine Qk (cs:=#[.int .i64 ι,.int .i64 (wrap64 ((wrap64 (B+X))+1)),.int .i64 J]) ?_ 2 _ rfl;(with_reducible repeat first|apply Qb|apply Qd|apply Qc);refine Qk (cs:=#[.int .i64 ι,.int .i64 Y,.int .i64 J]) ?_ 1 _ rfl;(with_reducible repeat first|apply Qb|apply Qd|apply Qc);refine Qk (cs:=#[.int .i64 ε,.int .i64 Y,.int .i64 J]) ?_ 0 _ rfl;(with_reducible repeat first|apply Qb|apply Qd|apply Qc);exact γ.out) Tryd.underlying75 rfl kr) rfl ?_
                 exact⟨by first|rfl|(simp[Qo,Qn] <;> rfl)|(simp only[← ζ];first|rfl|(simp[Qo,Qn] <;> rfl))|(simp[*,Qo,Qn] <;> rfl),by repeat(first|(with_reducible first|exact HB.out|apply Qe|apply Qa|apply Qf|refine Qg ?_ η.out)|exact HB.out)⟩
                ·rw[if_neg cf] at H
                 exact absurd H (by simp)
               ·rw[if_neg er] at H
                exact absurd H (by simp)
              ·rw[if_neg bp] at H
               exact absurd H (by simp)
            ·rw[if_neg dl] at H
             have c16b0:decide (0<X)=false:=decide_eq_false dl
             clear dl
             by_cases cb:0≤B
             ·rw[if_pos cb] at H
              have c25b0:=eq_true cb
              have c25b1:decide (0≤B)=true:=decide_eq_true cb
              clear cb
              by_cases dn:B≤(wrap64 ((wrap64 (B+X))+1))
              ·rw[if_pos dn] at H
               have c26b0:=eq_true dn
               have c26b1:decide (B≤(wrap64 ((wrap64 (B+X))+1)))=true:=decide_eq_true dn
               by_cases eu:(wrap64 ((wrap64 (B+X))+1))≤(l0.length:Int)
               ·rw[if_pos eu] at H
                have c27b0:=eq_true eu
                have c27b1:decide ((wrap64 ((wrap64 (B+X))+1))≤(l0.length:Int))=true:=decide_eq_true eu
                replace H:=Option.bind_eq_some_iff.mp H
                obtain⟨μ,bm,H⟩:=H
                replace H:(some (μ,wrap64 ((wrap64 (B+X))+1),0))=some (r1,r2,r3):=H
                have d4:=Aside0.mk bm
                clear bm
                simp only[Option.some.injEq,Prod.mk.injEq] at H
                obtain⟨rfl,rfl,rfl⟩:=H
                obtain⟨b6,ae,_,af,_⟩:=info_parts Zx
                obtain⟨b2,b3,aj,ak⟩:=J5 (P:=Tryd.prog) (Value.int .u8) 0 22 5 .i64 .i64 Tryd.underlying22 ae af (some aa) c0 l0 B (wrap64 ((wrap64 (B+X))+1)) (of_decide_eq_true (by first|(with_reducible assumption)|assumption)) (by first|omega|exact of_decide_eq_true (by first|(with_reducible assumption)|assumption)) (of_decide_eq_true (by first|(with_reducible assumption)|assumption)) ω.out
                have an:=Aside0.mk (Kd.Z8 (h1:=fun _=>rfl) (aj _ (Kd.Zv δ.out)))
                have ao:=Aside0.mk ak
                clear aj ak ae af
                try subst ζ
                go_wp2_with (first|((with_reducible refine Qv (f:=46) rfl ?_);refine Ze (some 53) rfl rfl Tryd.func46 kr rfl #[.slice b2 ((l0.take ((wrap64 ((wrap64 (B+X))+1)):Int).toNat).drop (B:Int).toNat).length (c0-B.toNat)] rfl (by(try simp only[List.map_toArray,List.map_cons,List.map_nil]);first|done|(rw[show((l0.take ((wrap64 ((wrap64 (B+X))+1)):Int).toNat).drop (B:Int).toNat).length=((wrap64 ((wrap64 (B+X))+1)).toNat-B.toNat) from(by rw[List.length_drop,List.length_take];have h_:((wrap64 ((wrap64 (B+X))+1)):Int)≤(l0.length:Int):=of_decide_eq_true (by first|(with_reducible assumption)|assumption);omega)] <;> rfl)|rfl|(simp only[List.length_drop,List.length_take];rfl)) ?_;(with_reducible refine(newelref08_value.calls a3 _ _ ((l0.take ((wrap64 ((wrap64 (B+X))+1)):Int).toNat).drop (B:Int).toNat) μ _ ?side1 ?side2 d4.out).mono ?_);(case side1=>repeat(first|exact(Kd.Zb an.out HB.out)|(with_reducible refine Kd.Zc ?_ _)|(with_reducible refine Kd.Za ?_ _)|(with_reducible refine Kd.Zh ?_)));(case side2=>exact ao.out);rintro e w' ⟨rfl,⟨nd,rfl⟩⟩;refine⟨_,rfl, ?_⟩;(try(rw[Jx wc];generalize hq_:World.drewN wc _=wc;have D:Aside0 (wc.heap[θ]?=some (.cells #[.int .i64 ε,.int .i64 Y,.int .i64 J] 75 (0,0))):=⟨by rw[← hq_];exact(by(with_reducible repeat first|apply Qb|apply Qd|apply Qc);exact γ.out)⟩;have I:Aside0 (Below w.heap.size w wc):=⟨by rw[← hq_];exact(by repeat(first|(with_reducible first|exact HB.out|apply Qe|apply Qa|apply Qf|refine Qg ?_ η.out)|exact HB.out))⟩;clear γ HB hq_;have γ:=D;have HB:=I;clear D I));obtain⟨cd,cj,cr,ct,cu,cv⟩:=qD3 γ.out))
                refine bodyPost_ret (results_cell_row rfl _ _ θ 75 #[.int .i64 μ,.int .i64 (wrap64 ((wrap64 (B+X))+1)),.int .i64 0] (0,0) _ rfl (by(with_reducible repeat first|apply Qb|apply Qd|apply Qc);refine Qk (cs:=#[.int .i64 μ,.int .i64 (wrap64 ((wrap64 (B+X))+1)),.int .i64 J]) ?_ 2 _ rfl;(with_reducible repeat first|apply Qb|apply Qd|apply Qc);refine Qk (cs:=#[.int .i64 μ,.int .i64 Y,.int .i64 J]) ?_ 1 _ rfl;(with_reducible repeat first|apply Qb|apply Qd|apply Qc);refine Qk (cs:=#[.int .i64 ε,.int .i64 Y,.int .i64 J]) ?_ 0 _ rfl;(with_reducible repeat first|apply Qb|apply Qd|apply Qc);exact γ.out) Tryd.underlying75 rfl kr) rfl ?_
                exact⟨by first|rfl|(simp[Qo,Qn] <;> rfl)|(simp only[← ζ];first|rfl|(simp[Qo,Qn] <;> rfl))|(simp[*,Qo,Qn] <;> rfl),by repeat(first|(with_reducible first|exact HB.out|apply Qe|apply Qa|apply Qf|refine Qg ?_ η.out)|exact HB.out)⟩
               ·rw[if_neg eu] at H
                exact absurd H (by simp)
              ·rw[if_neg dn] at H
               exact absurd H (by simp)
             ·rw[if_neg cb] at H
              exact absurd H (by simp)
       ·rw[if_neg c10] at H
        exact absurd H (by simp)
      ·rw[if_neg c8] at H
       have c8b0:decide ((wrap64 (B+X))<(l0.length:Int))=false:=decide_eq_false c8
       clear c8
       simp only[Option.some.injEq,Prod.mk.injEq] at H
       obtain⟨rfl,rfl,rfl⟩:=H
       obtain⟨cw,cx,cy,d0,d2,d3⟩:=qD3 γ.out
       go_wp2
       refine bodyPost_ret (results_cell_row rfl _ _ θ 75 #[.int .i64 0,.int .i64 0,.int .i64 81] (0,0) _ rfl (by(with_reducible repeat first|apply Qb|apply Qd|apply Qc);refine Qk (cs:=#[.int .i64 0,.int .i64 0,.int .i64 J]) ?_ 2 _ rfl;(with_reducible repeat first|apply Qb|apply Qd|apply Qc);refine Qk (cs:=#[.int .i64 0,.int .i64 Y,.int .i64 J]) ?_ 1 _ rfl;(with_reducible repeat first|apply Qb|apply Qd|apply Qc);refine Qk (cs:=#[.int .i64 ε,.int .i64 Y,.int .i64 J]) ?_ 0 _ rfl;(with_reducible repeat first|apply Qb|apply Qd|apply Qc);exact γ.out) Tryd.underlying75 rfl kr) rfl ?_
       exact⟨by first|rfl|(simp[Qo,Qn] <;> rfl)|(simp[*,Qo,Qn] <;> rfl),by repeat(first|(with_reducible first|exact HB.out|apply Qe|apply Qa|apply Qf|refine Qg ?_ η.out)|exact HB.out)⟩
end Go.Proofs.YtickbejailcehaaDoor.C
