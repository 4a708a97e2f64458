/- Texts of this claim, one behind the other: what the law's functions come to, walked (printed by a program, with the words that the print uses), and what that is, in plain Lean. No conditions of their own. -/
import Derived.Test.YtickbejailcehaaDoorQFlashWrites1
import Derived.Test.YtickbejailcehaaDoorProg
namespace Go.Proofs.YtickbejailcehaaDoorW.PrintWords
open Go.RowKit Go.Proofs.YtickbejailcehaaDoorW.PrintLast Go.Proofs.YtickbejailcehaaDoorW.PrintMore
def qB (n m:Nat):Array Bool:=((List.range n).map fun i=>m.testBit i).toArray
theorem qP {P:Program} {ops:Array Oper} {Q:Exit→Act→World→Prop} {md:Region.Mode} {S:World→Prop} {ds:List Nat} {oi:Oper} {v:Value} {fuel:Nat} {l:Array Bool} {a:Act} {w:World} {T:Bool×List (List Nat×List Nat)} (i:Nat) (N:Option Tmp) (l':Array Bool) (ht:Aside0 (rtab md ops=T)) {a':Act} (h:Zg P md ops Q S ds fuel l' a' w) (hi:ops[i]?=some oi:=by rfl) (hN:oi.dst=N:=by rfl) (hc:Ec T l.toList l'.toList i=true:=by kernel_rfl) (hQ:∀ c a w,Q (.panic c) (a.put oi.dst v) w→Q (.panic c) a w:=by exact(fun _ _ _ h=>h)) (hy:Yields P ops oi v a:=by(refine Or.inl ⟨by rfl, ?_⟩;intro w';go_simp;with_reducible rfl)) (ha:a.put N v=a':=by(simp only[Act.put,qS,Zu,Z4];rfl)):Zg P md ops Q S ds (fuel+1) l a w:=G2 l' hi hN (M9 ht.out hc) hQ hy ha h
theorem qU {P:Program} {ops:Array Oper} {Q:Exit→Act→World→Prop} {md:Region.Mode} {S:World→Prop} {ds:List Nat} {oi:Oper} {fuel:Nat} {l:Array Bool} {a:Act} {w:World} {T:Bool×List (List Nat×List Nat)} (i:Nat) (N:Option Tmp) (l':Array Bool) (ht:Aside0 (rtab md ops=T)) {a':Act} (h:Zg P md ops Q S ds fuel l' a' w) (hi:ops[i]?=some oi:=by rfl) (hN:oi.dst=N:=by rfl) (hc:Ec T l.toList l'.toList i=true:=by kernel_rfl) (hQ:∀ c a w,Q (.panic c) (a.put oi.dst undef) w→Q (.panic c) a w:=by exact(fun _ _ _ h=>h)) (hy:Yields P ops oi undef a:=by exact(Or.inr ⟨by rfl,rfl⟩)) (ha:a.put N undef=a':=by(simp only[Act.put,qS,Zu,Z4];rfl)):Zg P md ops Q S ds (fuel+1) l a w:=G2 l' hi hN (M9 ht.out hc) hQ hy ha h
theorem qT {P:Program} {ops:Array Oper} {Q:Exit→Act→World→Prop} {md:Region.Mode} {S:World→Prop} {ds:List Nat} {oi:Oper} {v:Value} {fuel:Nat} {l:Array Bool} {a:Act} {w:World} {T:Bool×List (List Nat×List Nat)} {B:List Nat} (i:Nat) (N:Option Tmp) (l':Array Bool) (ht:Aside0 (rtab md ops=T)) (hW:Aside0 (Yb T.snd B=true)) (hS:S w) {a':Act} (h:Zg P md ops Q S ds fuel l' a' w) (hi:ops[i]?=some oi:=by rfl) (hN:oi.dst=N:=by rfl) (hc:Lr T B ds l.toList l'.toList i=true:=by kernel_rfl) (hQ:∀ c a w,Q (.panic c) (a.put oi.dst v) w→Q (.panic c) a w:=by exact(fun _ _ _ h=>h)) (hy:YieldsIf P ops S oi v a:=by(refine Or.inl ⟨by rfl, ?_⟩;intro w' hs_;(repeat obtain⟨_,hs_⟩:=(hs_:_∧_));go_simp;with_reducible rfl)) (ha:a.put N v=a':=by(simp only[Act.put,qS,Zu,Z4];rfl)):Zg P md ops Q S ds (fuel+1) l a w:=Gz l' hi hN (Lq ht.out hW.out hc) hQ hy hS ha h
theorem qN {P:Program} {ops:Array Oper} {Q:Exit→Act→World→Prop} {md:Region.Mode} {S:World→Prop} {ds:List Nat} {v:Value} {fuel:Nat} {l:Array Bool} {a:Act} {w:World} (N:Option Tmp) {a':Act} (h:Zg P md ops Q S ds fuel l a' w) (ha:a.put N v=a':=by(simp only[Act.put,qS,Zu,Z4];rfl)):Zg P md ops Q S ds fuel l (a.put N v) w:=Yt ha h
theorem qc {w:World} {g i:Nat} {t:TypeId} {cs:Array Value} {v:Value} (b:Aside0 (w.heap[g]?=some (.cells cs t (0,0)))) (h:cs[i]?=some v:=by exact rfl):w.cell? ⟨g,i,none⟩=some v:=(Q3 b.out i).trans h
theorem qM {p:Prop} (h:p:=by((try simp only[List.map_toArray,List.map_cons,List.map_nil]) <;> (first|done|rfl))):p:=h
theorem qE {P:Program} {ops:Array Oper} {Q:Exit→Act→World→Prop} {o:Oper} {rest:List Oper} {a:Act} {W:World} (N:Tmp) (cs:Array Value) (t:TypeId) (h:∀ g,g=W.heap.size → ∀ w1,w1.heap[g]?=some (.cells cs t (0,0))→Below W.heap.size W w1→wpList P ops Q rest (a.put o.dst (.pointer (some ⟨g,0,none⟩))) w1) (hd:o.dst=some N:=by rfl) (hg:o.guard=none:=by rfl) (hr:(execOp a.eval o).run P W = .ok (.value (.pointer (some ⟨W.heap.size,0,none⟩))) (W.alloc (.cells cs t (0,0))):=by(go_simp <;> rfl)):wpList P ops Q (o :: rest) a W:=Q7 hg (N:=N) hd (cs:=cs) (t:=t) hr h
theorem qD2 {w:World} {g:Nat} {t:TypeId} {a0 a1:Value} (b:w.heap[g]?=some (.cells #[a0,a1] t (0,0))):w.cell? ⟨g,0,none⟩=some a0∧w.cell? ⟨g,1,none⟩=some a1∧w.frozen? ⟨g,0,none⟩=false∧w.frozen? ⟨g,1,none⟩=false:=⟨(Q3 b 0).trans rfl,(Q3 b 1).trans rfl,Q6 b 0,Q6 b 1⟩
theorem qD3 {w:World} {g:Nat} {t:TypeId} {a0 a1 a2:Value} (b:w.heap[g]?=some (.cells #[a0,a1,a2] t (0,0))):w.cell? ⟨g,0,none⟩=some a0∧w.cell? ⟨g,1,none⟩=some a1∧w.cell? ⟨g,2,none⟩=some a2∧w.frozen? ⟨g,0,none⟩=false∧w.frozen? ⟨g,1,none⟩=false∧w.frozen? ⟨g,2,none⟩=false:=⟨(Q3 b 0).trans rfl,(Q3 b 1).trans rfl,(Q3 b 2).trans rfl,Q6 b 0,Q6 b 1,Q6 b 2⟩
theorem qD4 {w:World} {g:Nat} {t:TypeId} {a0 a1 a2 a3:Value} (b:w.heap[g]?=some (.cells #[a0,a1,a2,a3] t (0,0))):w.cell? ⟨g,0,none⟩=some a0∧w.cell? ⟨g,1,none⟩=some a1∧w.cell? ⟨g,2,none⟩=some a2∧w.cell? ⟨g,3,none⟩=some a3∧w.frozen? ⟨g,0,none⟩=false∧w.frozen? ⟨g,1,none⟩=false∧w.frozen? ⟨g,2,none⟩=false∧w.frozen? ⟨g,3,none⟩=false:=⟨(Q3 b 0).trans rfl,(Q3 b 1).trans rfl,(Q3 b 2).trans rfl,(Q3 b 3).trans rfl,Q6 b 0,Q6 b 1,Q6 b 2,Q6 b 3⟩
theorem qD5 {w:World} {g:Nat} {t:TypeId} {a0 a1 a2 a3 a4:Value} (b:w.heap[g]?=some (.cells #[a0,a1,a2,a3,a4] t (0,0))):w.cell? ⟨g,0,none⟩=some a0∧w.cell? ⟨g,1,none⟩=some a1∧w.cell? ⟨g,2,none⟩=some a2∧w.cell? ⟨g,3,none⟩=some a3∧w.cell? ⟨g,4,none⟩=some a4∧w.frozen? ⟨g,0,none⟩=false∧w.frozen? ⟨g,1,none⟩=false∧w.frozen? ⟨g,2,none⟩=false∧w.frozen? ⟨g,3,none⟩=false∧w.frozen? ⟨g,4,none⟩=false:=⟨(Q3 b 0).trans rfl,(Q3 b 1).trans rfl,(Q3 b 2).trans rfl,(Q3 b 3).trans rfl,(Q3 b 4).trans rfl,Q6 b 0,Q6 b 1,Q6 b 2,Q6 b 3,Q6 b 4⟩
theorem qD6 {w:World} {g:Nat} {t:TypeId} {a0 a1 a2 a3 a4 a5:Value} (b:w.heap[g]?=some (.cells #[a0,a1,a2,a3,a4,a5] t (0,0))):w.cell? ⟨g,0,none⟩=some a0∧w.cell? ⟨g,1,none⟩=some a1∧w.cell? ⟨g,2,none⟩=some a2∧w.cell? ⟨g,3,none⟩=some a3∧w.cell? ⟨g,4,none⟩=some a4∧w.cell? ⟨g,5,none⟩=some a5∧w.frozen? ⟨g,0,none⟩=false∧w.frozen? ⟨g,1,none⟩=false∧w.frozen? ⟨g,2,none⟩=false∧w.frozen? ⟨g,3,none⟩=false∧w.frozen? ⟨g,4,none⟩=false∧w.frozen? ⟨g,5,none⟩=false:=⟨(Q3 b 0).trans rfl,(Q3 b 1).trans rfl,(Q3 b 2).trans rfl,(Q3 b 3).trans rfl,(Q3 b 4).trans rfl,(Q3 b 5).trans rfl,Q6 b 0,Q6 b 1,Q6 b 2,Q6 b 3,Q6 b 4,Q6 b 5⟩
end Go.Proofs.YtickbejailcehaaDoorW.PrintWords
namespace Go.Proofs.YtickbejailcehaaDoor.C
open Go.RowKit Go.Proofs.YtickbejailcehaaDoorW.PrintWords Go.Proofs.YtickbejailcehaaDoorW.PrintLast Go.Proofs.YtickbejailcehaaDoorW.PrintMore
attribute [local go_sem] Xm Xk X0 Xz Xc Xb Xl Xj
set_option linter.unusedVariables false
set_option linter.unusedSimpArgs false
def errW:Option Int→Value
 |none=>.nilIface
 |some c=>.iface 0 (.int .i64 c)
theorem Qo:errW none = .nilIface:=rfl
theorem Qn (c:Int):errW (some c) = .iface 0 (.int .i64 c):=rfl
theorem El:(Tryd.prog.info? 3).map (fun i=>(i.zero,i.size,i.bytes))=some (some (.int .i64 0),1,8):=by kernel_rfl
theorem Zx:(Tryd.prog.info? 5).map (fun i=>(i.zero,i.size,i.bytes))=some (some (.int .u8 0),1,1):=by kernel_rfl
structure S26 where
 f0:Int
 f1:Int
 f2:Int
 f3:(List Int)
def k26:Kd S26:=Kd.iso (Kd.pair (Kd.int .i64) (Kd.pair (Kd.int .i64) (Kd.pair (Kd.int .i64) (Kd.slice 5 (Kd.int .u8))))) (fun x:S26=>(x.f0,x.f1,x.f2,x.f3))
theorem Mo {w:World} {x:S26} {cs:List Value} (h:k26.K w x cs):∃ A3 c3,cs = [.int .i64 x.f0,.int .i64 x.f1,.int .i64 x.f2,.slice A3 x.f3.length c3]∧x.f3.length≤c3∧(Kd.int .u8).C w A3 x.f3.length x.f3:=by
 obtain⟨_,_,rfl,rfl,⟨_,_,rfl,rfl,⟨_,_,rfl,rfl,⟨A3,c3,rfl,l3,g3⟩⟩⟩⟩:=h
 exact⟨A3,c3,rfl,l3,g3⟩
structure S24 where
 f0:(List Int)
 f1:(List Int)
def k24:Kd S24:=Kd.iso (Kd.pair (Kd.slice 5 (Kd.int .u8)) (Kd.slice 5 (Kd.int .u8))) (fun x:S24=>(x.f0,x.f1))
theorem Mp {w:World} {x:S24} {cs:List Value} (h:k24.K w x cs):∃ A0 c0 A1 c1,cs = [.slice A0 x.f0.length c0,.slice A1 x.f1.length c1]∧x.f0.length≤c0∧(Kd.int .u8).C w A0 x.f0.length x.f0∧x.f1.length≤c1∧(Kd.int .u8).C w A1 x.f1.length x.f1:=by
 obtain⟨_,_,rfl,⟨A0,c0,rfl,l0,g0⟩,⟨A1,c1,rfl,l1,g1⟩⟩:=h
 exact⟨A0,c0,A1,c1,rfl,l0,g0,l1,g1⟩
def wire_code.f (a0:Int):Option (Int):=if a0<0 then (some (Go.bits .or .u64 (IntKind.u64.wrap ((IntKind.u64.wrap (Go.bits .xor .i64 (-1) a0)) * 2)) 1)) else (some (IntKind.u64.wrap ((IntKind.u64.wrap (a0)) * 2)))
set_option maxHeartbeats 8000000 in
set_option maxRecDepth 100000 in
theorem wire_code.calls (a0:Int) (r:Int) (w:World) (h:wire_code.f a0=some r):
  Calls Tryd.prog 41 #[.int .i64 a0] w fun e w'=>e = .returned (.int .u64 r)∧Drawn0 w w':=by
 have H:(if a0<0 then (some (Go.bits .or .u64 (IntKind.u64.wrap ((IntKind.u64.wrap (Go.bits .xor .i64 (-1) a0)) * 2)) 1)) else (some (IntKind.u64.wrap ((IntKind.u64.wrap (a0)) * 2))))=some r:=h
 clear h
 by_cases c2:a0<0
 ·rw[if_pos c2] at H
  have c2b0:decide (a0<0)=true:=decide_eq_true c2
  clear c2
  obtain rfl:=Option.some.inj H
  go_enter Tryd.func41,Tryd.ntmps41
  go_wp2
  go_ret
  exact⟨qR,by repeat(first|exact Drawn0.refl _|apply Drawn0.step)⟩
 ·rw[if_neg c2] at H
  have c2b0:decide (a0<0)=false:=decide_eq_false c2
  clear c2
  obtain rfl:=Option.some.inj H
  go_enter Tryd.func41,Tryd.ntmps41
  go_wp2
  go_ret
  exact⟨qR,by repeat(first|exact Drawn0.refl _|apply Drawn0.step)⟩
mutual
def wire_read.l0:Nat→Int→List Int→Int→Int→Option (Int×Int×Int)
 |0,_,_,_,_=>none
 |k+1,x5,x8,x9,x10=>if x10<x9 then (if 0≤x10 then (if x10<(x8.length:Int) then (if x10=9 then (wire_read.j1 k x5 x10 (rd x8 x10) x8 x9 x10 (decide ((rd x8 x10)>1))) else (wire_read.j1 k x5 x10 (rd x8 x10) x8 x9 x10 false)) else (none)) else (none)) else (some (0,0,0))
def wire_read.j1:Nat→Int→Int→Int→List Int→Int→Int→Bool→Option (Int×Int×Int)
 |0,_,_,_,_,_,_,_=>none
 |k+1,x5,x6,x7,x8,x9,x10,x20=>if x20=true then (some (0,0,1)) else (if 0≤(wrap64 (7 * x6)) then (if x7<128 then (if x6>0 then (if x7=0 then (some (0,0,1)) else (some (Go.bits .or .u64 x5 (shl .u64 (IntKind.u64.wrap (Int.tmod x7 128)) (wrap64 (7 * x6))),wrap64 (x6+1),2))) else (some (Go.bits .or .u64 x5 (shl .u64 (IntKind.u64.wrap (Int.tmod x7 128)) (wrap64 (7 * x6))),wrap64 (x6+1),2))) else (wire_read.l0 k (Go.bits .or .u64 x5 (shl .u64 (IntKind.u64.wrap (Int.tmod x7 128)) (wrap64 (7 * x6)))) x8 x9 (wrap64 (x10+1)))) else (none))
end
def wire_read.f (k:Nat) (l0:List Int):Option (Int×Int×Int):=wire_read.l0 k 0 l0 (l0.length:Int) 0
theorem wire_read.Zl:∀ k,(∀ y0 y1 y2 y3,LeO (wire_read.l0 k y0 y1 y2 y3) (wire_read.l0 (k+1) y0 y1 y2 y3))∧(∀ y0 y1 y2 y3 y4 y5 y6,LeO (wire_read.j1 k y0 y1 y2 y3 y4 y5 y6) (wire_read.j1 (k+1) y0 y1 y2 y3 y4 y5 y6))
 |0=>⟨fun _ _ _ _ r h=>by simp[wire_read.l0] at h,fun _ _ _ _ _ _ _ r h=>by simp[wire_read.j1] at h⟩
 |k+1=>by
  obtain⟨ih0,ih1⟩:=wire_read.Zl k
  refine⟨?_, ?_⟩
  ·intro y0 y1 y2 y3
   unfold wire_read.l0
   repeat' first
   |(with_reducible exact ih0 _ _ _ _)
   |(with_reducible exact ih1 _ _ _ _ _ _ _)
   |(with_reducible exact LeO.refl _)
   |(with_reducible exact LeO.none _)
   |(with_reducible refine LeO.ite ?_ ?_)
   |(with_reducible refine LeO.bind ?_ (fun _=>?_))
   |exact ih0 _ _ _ _
   |exact ih1 _ _ _ _ _ _ _
   |exact LeO.none _
   |refine LeO.ite ?_ ?_
   |refine LeO.bind ?_ (fun _=>?_)
  ·intro y0 y1 y2 y3 y4 y5 y6
   unfold wire_read.j1
   repeat' first
   |(with_reducible exact ih0 _ _ _ _)
   |(with_reducible exact ih1 _ _ _ _ _ _ _)
   |(with_reducible exact LeO.refl _)
   |(with_reducible exact LeO.none _)
   |(with_reducible refine LeO.ite ?_ ?_)
   |(with_reducible refine LeO.bind ?_ (fun _=>?_))
   |exact ih0 _ _ _ _
   |exact ih1 _ _ _ _ _ _ _
   |exact LeO.none _
   |refine LeO.ite ?_ ?_
   |refine LeO.bind ?_ (fun _=>?_)
theorem wire_read.mono:∀ a0 k,LeO (wire_read.f k a0) (wire_read.f (k+1) a0):=by
 intro a0 k
 obtain⟨ih0,ih1⟩:=wire_read.Zl k
 unfold wire_read.f
 repeat' first
   |(with_reducible exact ih0 _ _ _ _)
   |(with_reducible exact ih1 _ _ _ _ _ _ _)
   |(with_reducible exact LeO.refl _)
   |(with_reducible exact LeO.none _)
   |(with_reducible refine LeO.ite ?_ ?_)
   |(with_reducible refine LeO.bind ?_ (fun _=>?_))
   |exact ih0 _ _ _ _
   |exact ih1 _ _ _ _ _ _ _
   |exact LeO.none _
   |refine LeO.ite ?_ ?_
   |refine LeO.bind ?_ (fun _=>?_)
set_option maxHeartbeats 8000000 in
set_option maxRecDepth 100000 in
theorem wire_read.calls (k:Nat) (A0:Option Addr) (c0:Nat) (l0:List Int) (r1:Int) (r2:Int) (r3:Int) (w:World) (hr0:Kd.C (Kd.int .u8) w A0 l0.length l0) (hc0:l0.length≤c0) (h:wire_read.f k l0=some (r1,r2,r3)):
  Calls Tryd.prog 43 #[.slice A0 l0.length c0] w fun e w'=>e = .returned (.tuple #[.int .u64 r1,.int .i64 r2,.int .i64 r3])∧Drawn0 w w':=by
 have HR0:=Aside0.mk hr0
 have HC0:=Aside0.mk hc0
 clear hr0 hc0
 have H:(wire_read.l0 k 0 l0 (l0.length:Int) 0)=some (r1,r2,r3):=h
 clear h
 have H':=Aside0.mk H
 clear H
 go_enter Tryd.func43,Tryd.ntmps43
 go_wp2
 go_loopg [5,10] k (fun kq v5 v10 w'=>∃ (x5_1:Int) (x10_1:Int),v5 = .int .u64 x5_1∧v10 = .int .i64 x10_1∧Aside0 (wire_read.l0 kq x5_1 l0 (l0.length:Int) x10_1=some (r1,r2,r3))∧Aside0 (kq≤k)∧Drawn0 w w')
 case atStart=>exact⟨(0),(0),qR,qR,H',⟨Nat.le_refl _⟩,by repeat(first|exact Drawn0.refl _|apply Drawn0.step)⟩
 case round=>
  clear H'
  obtain⟨x5_1,x10_1,rfl,rfl,HA,HK1,⟨m1,rfl⟩⟩:=hrel
  cases gk with
  |zero=>exact absurd HA.out (by simp[wire_read.l0])
  |succ k1=>
   have H:=HA.out
   clear HA
   simp only[wire_read.l0] at H
   by_cases c2:x10_1<(l0.length:Int)
   ·rw[if_pos c2] at H
    have c2b0:decide (x10_1<(l0.length:Int))=true:=decide_eq_true c2
    clear c2
    by_cases c3:0≤x10_1
    ·rw[if_pos c3] at H
     have c3b0:decide (0≤x10_1)=true:=decide_eq_true c3
     clear c3
     by_cases c4:x10_1<(l0.length:Int)
     ·rw[if_pos c4] at H
      have c4b0:decide (x10_1<(l0.length:Int))=true:=decide_eq_true c4
      clear c4
      have HC5:=Aside0.mk H
      clear H
      have p103:0≤(x10_1:Int):=of_decide_eq_true (by first|(with_reducible assumption)|assumption)
      have q103:x10_1<(l0.length:Int):=of_decide_eq_true (by first|(with_reducible assumption)|assumption)
      obtain⟨ad103,e103,hx103_0⟩:=Kd.Zr HR0.out x10_1 p103 q103
      cases e103
      replace p103:=eq_true p103
      replace q103:=eq_true q103
      go_upto_region 5 with(fail)
      go_cut [20] (fun v20 wc=>∃ (kq:Nat) (x20_4:Bool),v20 = .bool x20_4∧Aside0 (wire_read.j1 kq x5_1 x10_1 (rd l0 x10_1) l0 (l0.length:Int) x10_1 x20_4=some (r1,r2,r3))∧Aside0 (kq≤k1)∧Drawn0 w wc)
      case first=>
       have H:=HC5.out
       clear HC5
       by_cases c6:x10_1=9
       ·rw[if_pos c6] at H
        have c6b0:(x10_1==9)=true:=beq_iff_eq.mpr c6
        have c6b1:(x10_1 != 9)=false:=bne_eq_false_iff_eq.mpr c6
        clear c6
        (first|rw[c6b0]|(simp only[Zu,Z4];rw[c6b0])|skip)
        have H':=Aside0.mk H
        clear H
        go_wp2
        go_meet
        case rel=>exact⟨_,(decide ((rd l0 x10_1)>1)),qR,H',⟨by have:=HK1.out;first|omega|exact Nat.le_refl _⟩,by repeat(first|exact Drawn0.refl _|apply Drawn0.step)⟩
       ·rw[if_neg c6] at H
        have c6b0:(x10_1==9)=false:=beq_eq_false_iff_ne.mpr c6
        have c6b1:(x10_1 != 9)=true:=bne_iff_ne.mpr c6
        (first|rw[c6b0]|(simp only[Zu,Z4];rw[c6b0])|skip)
        have H':=Aside0.mk H
        clear H
        go_wp2
        go_meet
        case rel=>exact⟨_,(false),qR,H',⟨by have:=HK1.out;first|omega|exact Nat.le_refl _⟩,by repeat(first|exact Drawn0.refl _|apply Drawn0.step)⟩
      case rest=>
       clear HC5
       try clear p1
       try clear q1
       try clear hx1
       try clear c2
       try clear c2b0
       try clear p2
       try clear c3
       try clear c3b0
       try clear c4
       try clear c4b0
       try clear c6
       try clear c6b0
       try clear c6b1
       try clear hx103_0
       try clear p103
       try clear q103
       obtain⟨kq,x20_4,rfl,HA,HJ4,⟨mc4,rfl⟩⟩:=hcut
       cases kq with
       |zero=>exact absurd HA.out (by simp[wire_read.j1])
       |succ kj4=>
        have H:=HA.out
        clear HA
        simp only[wire_read.j1] at H
        by_cases c7:x20_4=true
        ·subst c7
         have H1:(some (0,0,1))=some (r1,r2,r3):=by rw[if_pos rfl] at H;exact H
         clear H
         have H:=H1
         clear H1
         simp only[Option.some.injEq,Prod.mk.injEq] at H
         obtain⟨rfl,rfl,rfl⟩:=H
         go_wp2
         go_ret3
         exact⟨qR,by repeat(first|exact Drawn0.refl _|apply Drawn0.step)⟩
        ·replace c7:=Bool.eq_false_iff.mpr c7
         subst c7
         have H1:(if 0≤(wrap64 (7 * x10_1)) then (if (rd l0 x10_1)<128 then (if x10_1>0 then (if (rd l0 x10_1)=0 then (some (0,0,1)) else (some (Go.bits .or .u64 x5_1 (shl .u64 (IntKind.u64.wrap (Int.tmod (rd l0 x10_1) 128)) (wrap64 (7 * x10_1))),wrap64 (x10_1+1),2))) else (some (Go.bits .or .u64 x5_1 (shl .u64 (IntKind.u64.wrap (Int.tmod (rd l0 x10_1) 128)) (wrap64 (7 * x10_1))),wrap64 (x10_1+1),2))) else (wire_read.l0 kj4 (Go.bits .or .u64 x5_1 (shl .u64 (IntKind.u64.wrap (Int.tmod (rd l0 x10_1) 128)) (wrap64 (7 * x10_1)))) l0 (l0.length:Int) (wrap64 (x10_1+1)))) else (none))=some (r1,r2,r3):=by rw[if_neg (show ¬ (false=true) by decide)] at H;exact H
         clear H
         have H:=H1
         clear H1
         obtain⟨ji8,hji8⟩:∃ j_:Int,(wrap64 (7 * x10_1))=j_:=⟨_,rfl⟩
         replace H:(if 0≤(ji8) then (if (rd l0 x10_1)<128 then (if x10_1>0 then (if (rd l0 x10_1)=0 then (some (0,0,1)) else (some (Go.bits .or .u64 x5_1 (shl .u64 (IntKind.u64.wrap (Int.tmod (rd l0 x10_1) 128)) (ji8)),wrap64 (x10_1+1),2))) else (some (Go.bits .or .u64 x5_1 (shl .u64 (IntKind.u64.wrap (Int.tmod (rd l0 x10_1) 128)) (ji8)),wrap64 (x10_1+1),2))) else (wire_read.l0 kj4 (Go.bits .or .u64 x5_1 (shl .u64 (IntKind.u64.wrap (Int.tmod (rd l0 x10_1) 128)) (ji8))) l0 (l0.length:Int) (wrap64 (x10_1+1)))) else (none))=some (r1,r2,r3):=by first|(rw[hji8] at H;exact H)|(simp only[hji8] at H ⊢;exact H)
         have hji8w:(IntKind.i64.wrap (7 * x10_1))=ji8:=(Zu _).trans hji8
         by_cases c9:0≤(ji8)
         ·rw[if_pos c9] at H
          have c9b0:=eq_true c9
          have c9b1:decide (0≤(ji8))=true:=decide_eq_true c9
          clear c9
          obtain⟨ji10,hji10⟩:∃ j_:Int,(shl .u64 (IntKind.u64.wrap (Int.tmod (rd l0 x10_1) 128)) (ji8))=j_:=⟨_,rfl⟩
          replace H:(if (rd l0 x10_1)<128 then (if x10_1>0 then (if (rd l0 x10_1)=0 then (some (0,0,1)) else (some (Go.bits .or .u64 x5_1 (ji10),wrap64 (x10_1+1),2))) else (some (Go.bits .or .u64 x5_1 (ji10),wrap64 (x10_1+1),2))) else (wire_read.l0 kj4 (Go.bits .or .u64 x5_1 (ji10)) l0 (l0.length:Int) (wrap64 (x10_1+1))))=some (r1,r2,r3):=by first|(rw[hji10] at H;exact H)|(simp only[hji10] at H ⊢;exact H)
          have hji10_:(IntKind.u64.wrap ((IntKind.u64.wrap (Int.tmod (rd l0 x10_1) 128)) * 2 ^ min (ji8).toNat 64))=ji10:=hji10
          have hji10z:(ji8)≤64→(IntKind.u64.wrap ((IntKind.u64.wrap (Int.tmod (rd l0 x10_1) 128)) * 2 ^ (ji8).toNat))=ji10:=Wz hji10
          by_cases c11:(rd l0 x10_1)<128
          ·rw[if_pos c11] at H
           have c11b0:decide ((rd l0 x10_1)<128)=true:=decide_eq_true c11
           clear c11
           by_cases c12:x10_1>0
           ·rw[if_pos c12] at H
            have c12b0:decide (0<x10_1)=true:=decide_eq_true c12
            clear c12
            by_cases c13:(rd l0 x10_1)=0
            ·rw[if_pos c13] at H
             have c13b0:((rd l0 x10_1)==0)=true:=beq_iff_eq.mpr c13
             have c13b1:((rd l0 x10_1) != 0)=false:=bne_eq_false_iff_eq.mpr c13
             clear c13
             simp only[Option.some.injEq,Prod.mk.injEq] at H
             obtain⟨rfl,rfl,rfl⟩:=H
             go_wp2
             go_ret3
             exact⟨by first|rfl|(simp;done)|(simp only[← hji8,← hji10] <;> (first|rfl|simp))|(simp[*];done),by repeat(first|exact Drawn0.refl _|apply Drawn0.step)⟩
            ·rw[if_neg c13] at H
             have c13b0:((rd l0 x10_1)==0)=false:=beq_eq_false_iff_ne.mpr c13
             have c13b1:((rd l0 x10_1) != 0)=true:=bne_iff_ne.mpr c13
             simp only[Option.some.injEq,Prod.mk.injEq] at H
             obtain⟨rfl,rfl,rfl⟩:=H
             go_wp2
             go_ret3
             exact⟨by first|rfl|(simp;done)|(simp only[← hji8,← hji10] <;> (first|rfl|simp))|(simp[*];done),by repeat(first|exact Drawn0.refl _|apply Drawn0.step)⟩
           ·rw[if_neg c12] at H
            have c12b0:decide (0<x10_1)=false:=decide_eq_false c12
            clear c12
            simp only[Option.some.injEq,Prod.mk.injEq] at H
            obtain⟨rfl,rfl,rfl⟩:=H
            go_wp2
            go_ret3
            exact⟨by first|rfl|(simp;done)|(simp only[← hji8,← hji10] <;> (first|rfl|simp))|(simp[*];done),by repeat(first|exact Drawn0.refl _|apply Drawn0.step)⟩
          ·rw[if_neg c11] at H
           have c11b0:decide ((rd l0 x10_1)<128)=false:=decide_eq_false c11
           clear c11
           have H':=Aside0.mk H
           clear H
           go_wp2
           go_roundg kj4
           case measure=>have:=HK1.out;have:=HJ4.out;omega
           case rel=>exact⟨(Go.bits .or .u64 x5_1 (ji10)),(wrap64 (x10_1+1)),(by first|rfl|(simp;done)|(simp only[← hji10] <;> (first|rfl|simp))|(simp[*];done)),qR,H',⟨by have:=HK1.out;have:=HJ4.out;omega⟩,by repeat(first|exact Drawn0.refl _|apply Drawn0.step)⟩
         ·rw[if_neg c9] at H
          exact absurd H (by simp)
     ·rw[if_neg c4] at H
      exact absurd H (by simp)
    ·rw[if_neg c3] at H
     exact absurd H (by simp)
   ·rw[if_neg c2] at H
    have c2b0:decide (x10_1<(l0.length:Int))=false:=decide_eq_false c2
    clear c2
    simp only[Option.some.injEq,Prod.mk.injEq] at H
    obtain⟨rfl,rfl,rfl⟩:=H
    go_wp2
    go_ret3
    exact⟨qR,by repeat(first|exact Drawn0.refl _|apply Drawn0.step)⟩
def wire_Get.j0:Nat→List Int→Int→Bool→Option (Int×Int×Int)
 |0,_,_,_=>none
 |k+1,x0,x1,x18=>if x18=true then (some (0,0,80)) else (if 0≤x1 then (if x1≤(x0.length:Int) then ((wire_read.f k (x0.drop (x1:Int).toNat)).bind fun bt105=>(if bt105.2.2=0 then (some (0,0,81)) else (if bt105.2.2=1 then (some (0,0,82)) else (if (Go.bits .and .u64 bt105.1 1)=1 then (some (Go.bits .xor .i64 (-1) (wrap64 (bt105.1 / 2)),wrap64 (x1+bt105.2.1),0)) else (some (wrap64 (bt105.1 / 2),wrap64 (x1+bt105.2.1),0)))))) else (none)) else (none))
def wire_Get.f (k:Nat) (l0:List Int) (a1:Int):Option (Int×Int×Int):=if a1<0 then (wire_Get.j0 k l0 a1 true) else (wire_Get.j0 k l0 a1 (decide (a1>(l0.length:Int))))
theorem wire_Get.Zl:∀ k,(∀ y0 y1 y2,LeO (wire_Get.j0 k y0 y1 y2) (wire_Get.j0 (k+1) y0 y1 y2))
 |0=>fun _ _ _ r h=>by simp[wire_Get.j0] at h
 |k+1=>by
  have ih0:=wire_Get.Zl k
  ·intro y0 y1 y2
   unfold wire_Get.j0
   repeat' first
   |(with_reducible exact ih0 _ _ _)
   |(with_reducible exact wire_read.mono _ _)
   |(with_reducible exact LeO.refl _)
   |(with_reducible exact LeO.none _)
   |(with_reducible refine LeO.ite ?_ ?_)
   |(with_reducible refine LeO.bind ?_ (fun _=>?_))
   |exact ih0 _ _ _
   |exact wire_read.mono _ _
   |exact LeO.none _
   |refine LeO.ite ?_ ?_
   |refine LeO.bind ?_ (fun _=>?_)
theorem wire_Get.mono:∀ a0 a1 k,LeO (wire_Get.f k a0 a1) (wire_Get.f (k+1) a0 a1):=by
 intro a0 a1 k
 have ih0:=wire_Get.Zl k
 unfold wire_Get.f
 repeat' first
   |(with_reducible exact ih0 _ _ _)
   |(with_reducible exact wire_read.mono _ _)
   |(with_reducible exact LeO.refl _)
   |(with_reducible exact LeO.none _)
   |(with_reducible refine LeO.ite ?_ ?_)
   |(with_reducible refine LeO.bind ?_ (fun _=>?_))
   |exact ih0 _ _ _
   |exact wire_read.mono _ _
   |exact LeO.none _
   |refine LeO.ite ?_ ?_
   |refine LeO.bind ?_ (fun _=>?_)
set_option maxHeartbeats 8000000 in
set_option maxRecDepth 100000 in
theorem wire_Get.calls (k:Nat) (A0:Option Addr) (c0:Nat) (l0:List Int) (a1:Int) (r1:Int) (r2:Int) (r3:Int) (w:World) (hr0:Kd.C (Kd.int .u8) w A0 l0.length l0) (hc0:l0.length≤c0) (h:wire_Get.f k l0 a1=some (r1,r2,r3)):
  Calls Tryd.prog 32 #[.slice A0 l0.length c0,.int .i64 a1] w fun e w'=>e = .returned (.tuple #[.int .i64 r1,.int .i64 r2,.int .i64 r3])∧Drawn0 w w':=by
 have HR0:=Aside0.mk hr0
 have HC0:=Aside0.mk hc0
 clear hr0 hc0
 have H:(if a1<0 then (wire_Get.j0 k l0 a1 true) else (wire_Get.j0 k l0 a1 (decide (a1>(l0.length:Int)))))=some (r1,r2,r3):=h
 clear h
 have HC3:=Aside0.mk H
 clear H
 go_enter Tryd.func32,Tryd.ntmps32
 go_upto_region 1 with(fail)
 go_cut [18] (fun v18 wc=>∃ (kq:Nat) (x18_2:Bool),v18 = .bool x18_2∧Aside0 (wire_Get.j0 kq l0 a1 x18_2=some (r1,r2,r3))∧Aside0 (kq≤k)∧Drawn0 w wc)
 case first=>
  have H:=HC3.out
  clear HC3
  by_cases c4:a1<0
  ·rw[if_pos c4] at H
   have c4b0:decide (a1<0)=true:=decide_eq_true c4
   clear c4
   (first|rw[c4b0]|(simp only[Zu,Z4];rw[c4b0])|skip)
   have H':=Aside0.mk H
   clear H
   go_wp2
   go_meet
   case rel=>exact⟨_,(true),qR,H',⟨by first|omega|exact Nat.le_refl _⟩,by repeat(first|exact Drawn0.refl _|apply Drawn0.step)⟩
  ·rw[if_neg c4] at H
   have c4b0:decide (a1<0)=false:=decide_eq_false c4
   clear c4
   (first|rw[c4b0]|(simp only[Zu,Z4];rw[c4b0])|skip)
   have H':=Aside0.mk H
   clear H
   go_wp2
   go_meet
   case rel=>exact⟨_,(decide (a1>(l0.length:Int))),qR,H',⟨by first|omega|exact Nat.le_refl _⟩,by repeat(first|exact Drawn0.refl _|apply Drawn0.step)⟩
 case rest=>
  clear HC3
  try clear p2
  try clear c3
  try clear c4
  try clear c4b0
  obtain⟨kq,x18_2,rfl,HA,HJ2,⟨mc2,rfl⟩⟩:=hcut
  cases kq with
  |zero=>exact absurd HA.out (by simp[wire_Get.j0])
  |succ kj2=>
   have H:=HA.out
   clear HA
   simp only[wire_Get.j0] at H
   by_cases c5:x18_2=true
   ·subst c5
    have H1:(some (0,0,80))=some (r1,r2,r3):=by rw[if_pos rfl] at H;exact H
    clear H
    have H:=H1
    clear H1
    simp only[Option.some.injEq,Prod.mk.injEq] at H
    obtain⟨rfl,rfl,rfl⟩:=H
    go_wp2
    go_ret3
    exact⟨qR,by repeat(first|exact Drawn0.refl _|apply Drawn0.step)⟩
   ·replace c5:=Bool.eq_false_iff.mpr c5
    subst c5
    have H1:(if 0≤a1 then (if a1≤(l0.length:Int) then ((wire_read.f kj2 (l0.drop (a1:Int).toNat)).bind fun bt105=>(if bt105.2.2=0 then (some (0,0,81)) else (if bt105.2.2=1 then (some (0,0,82)) else (if (Go.bits .and .u64 bt105.1 1)=1 then (some (Go.bits .xor .i64 (-1) (wrap64 (bt105.1 / 2)),wrap64 (a1+bt105.2.1),0)) else (some (wrap64 (bt105.1 / 2),wrap64 (a1+bt105.2.1),0)))))) else (none)) else (none))=some (r1,r2,r3):=by rw[if_neg (show ¬ (false=true) by decide)] at H;exact H
    clear H
    have H:=H1
    clear H1
    by_cases c6:0≤a1
    ·rw[if_pos c6] at H
     have c6b0:=eq_true c6
     have c6b1:decide (0≤a1)=true:=decide_eq_true c6
     clear c6
     by_cases c7:a1≤(l0.length:Int)
     ·rw[if_pos c7] at H
      have c7b0:=eq_true c7
      have c7b1:decide (a1≤(l0.length:Int))=true:=decide_eq_true c7
      clear c7
      replace H:=Option.bind_eq_some_iff.mp H
      obtain⟨⟨t105,t106,t107⟩,A80,H⟩:=H
      replace H:(if t107=0 then (some (0,0,81)) else (if t107=1 then (some (0,0,82)) else (if (Go.bits .and .u64 t105 1)=1 then (some (Go.bits .xor .i64 (-1) (wrap64 (t105 / 2)),wrap64 (a1+t106),0)) else (some (wrap64 (t105 / 2),wrap64 (a1+t106),0)))))=some (r1,r2,r3):=H
      have A8:=Aside0.mk A80
      clear A80
      by_cases c9:t107=0
      ·rw[if_pos c9] at H
       have c9b0:(t107==0)=true:=beq_iff_eq.mpr c9
       have c9b1:(t107 != 0)=false:=bne_eq_false_iff_eq.mpr c9
       clear c9
       simp only[Option.some.injEq,Prod.mk.injEq] at H
       obtain⟨rfl,rfl,rfl⟩:=H
       obtain⟨i010,hi010,_,hsz10,_⟩:=info_parts Zx
       obtain⟨A10,hcut10,hA10,hC10⟩:=X7 (P:=Tryd.prog) (Value.int .u8) 0 22 5 .i64 Tryd.underlying22 hi010 hsz10 A0 c0 l0 a1 (of_decide_eq_true (by first|(with_reducible assumption)|assumption)) (of_decide_eq_true (by first|(with_reducible assumption)|assumption)) HC0.out
       have HR104:=Aside0.mk (Kd.Z8 (h1:=fun _=>rfl) (hA10 _ (Kd.Zv HR0.out)))
       have HC104:=Aside0.mk hC10
       clear hA10 hC10 hi010 hsz10
       go_wp2_with (first|((with_reducible refine Qv (f:=43) rfl ?_);refine Ze (some 23) rfl rfl Tryd.func43 kr rfl #[.slice A10 (l0.drop (a1:Int).toNat).length (c0-a1.toNat)] rfl (by(try simp only[List.map_toArray,List.map_cons,List.map_nil]);first|done|(rw[show(l0.drop (a1:Int).toNat).length=(l0.length-a1.toNat) from List.length_drop] <;> rfl)|rfl|(simp only[List.length_drop,List.length_take];rfl)) ?_;(with_reducible refine(wire_read.calls kj2 _ _ (l0.drop (a1:Int).toNat) t105 t106 t107 _ ?side1 ?side2 A8.out).mono ?_);(case side1=>repeat(first|exact HR104.out|(with_reducible refine Kd.Zc ?_ _)|(with_reducible refine Kd.Za ?_ _)|(with_reducible refine Kd.Zh ?_)));(case side2=>exact HC104.out);rintro e w' ⟨rfl,⟨nd,rfl⟩⟩;refine⟨_,rfl, ?_⟩))
       go_ret3
       exact⟨qR,by repeat(first|exact Drawn0.refl _|apply Drawn0.step)⟩
      ·rw[if_neg c9] at H
       have c9b0:(t107==0)=false:=beq_eq_false_iff_ne.mpr c9
       have c9b1:(t107 != 0)=true:=bne_iff_ne.mpr c9
       by_cases c11:t107=1
       ·rw[if_pos c11] at H
        have c11b0:(t107==1)=true:=beq_iff_eq.mpr c11
        have c11b1:(t107 != 1)=false:=bne_eq_false_iff_eq.mpr c11
        clear c11
        simp only[Option.some.injEq,Prod.mk.injEq] at H
        obtain⟨rfl,rfl,rfl⟩:=H
        obtain⟨i012,hi012,_,hsz12,_⟩:=info_parts Zx
        obtain⟨A12,hcut12,hA12,hC12⟩:=X7 (P:=Tryd.prog) (Value.int .u8) 0 22 5 .i64 Tryd.underlying22 hi012 hsz12 A0 c0 l0 a1 (of_decide_eq_true (by first|(with_reducible assumption)|assumption)) (of_decide_eq_true (by first|(with_reducible assumption)|assumption)) HC0.out
        have HR104:=Aside0.mk (Kd.Z8 (h1:=fun _=>rfl) (hA12 _ (Kd.Zv HR0.out)))
        have HC104:=Aside0.mk hC12
        clear hA12 hC12 hi012 hsz12
        go_wp2_with (first|((with_reducible refine Qv (f:=43) rfl ?_);refine Ze (some 23) rfl rfl Tryd.func43 kr rfl #[.slice A12 (l0.drop (a1:Int).toNat).length (c0-a1.toNat)] rfl (by(try simp only[List.map_toArray,List.map_cons,List.map_nil]);first|done|(rw[show(l0.drop (a1:Int).toNat).length=(l0.length-a1.toNat) from List.length_drop] <;> rfl)|rfl|(simp only[List.length_drop,List.length_take];rfl)) ?_;(with_reducible refine(wire_read.calls kj2 _ _ (l0.drop (a1:Int).toNat) t105 t106 t107 _ ?side1 ?side2 A8.out).mono ?_);(case side1=>repeat(first|exact HR104.out|(with_reducible refine Kd.Zc ?_ _)|(with_reducible refine Kd.Za ?_ _)|(with_reducible refine Kd.Zh ?_)));(case side2=>exact HC104.out);rintro e w' ⟨rfl,⟨nd,rfl⟩⟩;refine⟨_,rfl, ?_⟩))
        go_ret3
        exact⟨qR,by repeat(first|exact Drawn0.refl _|apply Drawn0.step)⟩
       ·rw[if_neg c11] at H
        have c11b0:(t107==1)=false:=beq_eq_false_iff_ne.mpr c11
        have c11b1:(t107 != 1)=true:=bne_iff_ne.mpr c11
        by_cases c13:(Go.bits .and .u64 t105 1)=1
        ·rw[if_pos c13] at H
         have c13b0:((Go.bits .and .u64 t105 1)==1)=true:=beq_iff_eq.mpr c13
         have c13b1:((Go.bits .and .u64 t105 1) != 1)=false:=bne_eq_false_iff_eq.mpr c13
         clear c13
         simp only[Option.some.injEq,Prod.mk.injEq] at H
         obtain⟨rfl,rfl,rfl⟩:=H
         obtain⟨i014,hi014,_,hsz14,_⟩:=info_parts Zx
         obtain⟨A14,hcut14,hA14,hC14⟩:=X7 (P:=Tryd.prog) (Value.int .u8) 0 22 5 .i64 Tryd.underlying22 hi014 hsz14 A0 c0 l0 a1 (of_decide_eq_true (by first|(with_reducible assumption)|assumption)) (of_decide_eq_true (by first|(with_reducible assumption)|assumption)) HC0.out
         have HR104:=Aside0.mk (Kd.Z8 (h1:=fun _=>rfl) (hA14 _ (Kd.Zv HR0.out)))
         have HC104:=Aside0.mk hC14
         clear hA14 hC14 hi014 hsz14
         go_wp2_with (first|((with_reducible refine Qv (f:=43) rfl ?_);refine Ze (some 23) rfl rfl Tryd.func43 kr rfl #[.slice A14 (l0.drop (a1:Int).toNat).length (c0-a1.toNat)] rfl (by(try simp only[List.map_toArray,List.map_cons,List.map_nil]);first|done|(rw[show(l0.drop (a1:Int).toNat).length=(l0.length-a1.toNat) from List.length_drop] <;> rfl)|rfl|(simp only[List.length_drop,List.length_take];rfl)) ?_;(with_reducible refine(wire_read.calls kj2 _ _ (l0.drop (a1:Int).toNat) t105 t106 t107 _ ?side1 ?side2 A8.out).mono ?_);(case side1=>repeat(first|exact HR104.out|(with_reducible refine Kd.Zc ?_ _)|(with_reducible refine Kd.Za ?_ _)|(with_reducible refine Kd.Zh ?_)));(case side2=>exact HC104.out);rintro e w' ⟨rfl,⟨nd,rfl⟩⟩;refine⟨_,rfl, ?_⟩))
         go_ret3
         exact⟨qR,by repeat(first|exact Drawn0.refl _|apply Drawn0.step)⟩
        ·rw[if_neg c13] at H
         have c13b0:((Go.bits .and .u64 t105 1)==1)=false:=beq_eq_false_iff_ne.mpr c13
         have c13b1:((Go.bits .and .u64 t105 1) != 1)=true:=bne_iff_ne.mpr c13
         simp only[Option.some.injEq,Prod.mk.injEq] at H
         obtain⟨rfl,rfl,rfl⟩:=H
         obtain⟨i015,hi015,_,hsz15,_⟩:=info_parts Zx
         obtain⟨A15,hcut15,hA15,hC15⟩:=X7 (P:=Tryd.prog) (Value.int .u8) 0 22 5 .i64 Tryd.underlying22 hi015 hsz15 A0 c0 l0 a1 (of_decide_eq_true (by first|(with_reducible assumption)|assumption)) (of_decide_eq_true (by first|(with_reducible assumption)|assumption)) HC0.out
         have HR104:=Aside0.mk (Kd.Z8 (h1:=fun _=>rfl) (hA15 _ (Kd.Zv HR0.out)))
         have HC104:=Aside0.mk hC15
         clear hA15 hC15 hi015 hsz15
         go_wp2_with (first|((with_reducible refine Qv (f:=43) rfl ?_);refine Ze (some 23) rfl rfl Tryd.func43 kr rfl #[.slice A15 (l0.drop (a1:Int).toNat).length (c0-a1.toNat)] rfl (by(try simp only[List.map_toArray,List.map_cons,List.map_nil]);first|done|(rw[show(l0.drop (a1:Int).toNat).length=(l0.length-a1.toNat) from List.length_drop] <;> rfl)|rfl|(simp only[List.length_drop,List.length_take];rfl)) ?_;(with_reducible refine(wire_read.calls kj2 _ _ (l0.drop (a1:Int).toNat) t105 t106 t107 _ ?side1 ?side2 A8.out).mono ?_);(case side1=>repeat(first|exact HR104.out|(with_reducible refine Kd.Zc ?_ _)|(with_reducible refine Kd.Za ?_ _)|(with_reducible refine Kd.Zh ?_)));(case side2=>exact HC104.out);rintro e w' ⟨rfl,⟨nd,rfl⟩⟩;refine⟨_,rfl, ?_⟩))
         go_ret3
         exact⟨qR,by repeat(first|exact Drawn0.refl _|apply Drawn0.step)⟩
     ·rw[if_neg c7] at H
      exact absurd H (by simp)
    ·rw[if_neg c6] at H
     exact absurd H (by simp)
mutual
def wire_GetRow.j0:Nat→List Int→Int→Int→Int→Bool→Option (List Int×Int×Int)
 |0,_,_,_,_,_=>none
 |k+1,x0,x9,x10,x11,x31=>if x31=true then (wire_GetRow.j1 k x0 x9 x10 83) else (wire_GetRow.j1 k x0 x9 x10 x11)
def wire_GetRow.j1:Nat→List Int→Int→Int→Int→Option (List Int×Int×Int)
 |0,_,_,_,_=>none
 |k+1,x0,x9,x10,x11=>wire_GetRow.l0 k x0 x9 x10 x11 ([]:List Int)
def wire_GetRow.l0:Nat→List Int→Int→Int→Int→List Int→Option (List Int×Int×Int)
 |0,_,_,_,_,_=>none
 |k+1,x0,x9,x10,x11,x12=>if x11=0 then (if x9>0 then ((wire_Get.f k x0 x10).bind fun bt111=>(if x12.length<17592186044416 then (wire_GetRow.l0 k x0 (wrap64 (x9-1)) bt111.2.1 bt111.2.2 (x12 ++ [bt111.1])) else (none))) else (some (x12,x10,0))) else (some (([]:List Int),0,x11))
end
def wire_GetRow.f (k:Nat) (l0:List Int) (a1:Int) (a2:Int):Option (List Int×Int×Int):=(wire_Get.f k l0 a1).bind fun bt108=>(if bt108.2.2=0 then (if bt108.1<0 then (wire_GetRow.j0 k l0 bt108.1 bt108.2.1 bt108.2.2 true) else (wire_GetRow.j0 k l0 bt108.1 bt108.2.1 bt108.2.2 (decide (bt108.1>a2)))) else (wire_GetRow.j0 k l0 bt108.1 bt108.2.1 bt108.2.2 false))
theorem wire_GetRow.Zl:∀ k,(∀ y0 y1 y2 y3 y4,LeO (wire_GetRow.j0 k y0 y1 y2 y3 y4) (wire_GetRow.j0 (k+1) y0 y1 y2 y3 y4))∧(∀ y0 y1 y2 y3,LeO (wire_GetRow.j1 k y0 y1 y2 y3) (wire_GetRow.j1 (k+1) y0 y1 y2 y3))∧(∀ y0 y1 y2 y3 y4,LeO (wire_GetRow.l0 k y0 y1 y2 y3 y4) (wire_GetRow.l0 (k+1) y0 y1 y2 y3 y4))
 |0=>⟨fun _ _ _ _ _ r h=>by simp[wire_GetRow.j0] at h,fun _ _ _ _ r h=>by simp[wire_GetRow.j1] at h,fun _ _ _ _ _ r h=>by simp[wire_GetRow.l0] at h⟩
 |k+1=>by
  obtain⟨ih0,ih1,ih2⟩:=wire_GetRow.Zl k
  refine⟨?_, ?_, ?_⟩
  ·intro y0 y1 y2 y3 y4
   unfold wire_GetRow.j0
   repeat' first
   |(with_reducible exact ih0 _ _ _ _ _)
   |(with_reducible exact ih1 _ _ _ _)
   |(with_reducible exact ih2 _ _ _ _ _)
   |(with_reducible exact wire_Get.mono _ _ _)
   |(with_reducible exact LeO.refl _)
   |(with_reducible exact LeO.none _)
   |(with_reducible refine LeO.ite ?_ ?_)
   |(with_reducible refine LeO.bind ?_ (fun _=>?_))
   |exact ih0 _ _ _ _ _
   |exact ih1 _ _ _ _
   |exact ih2 _ _ _ _ _
   |exact wire_Get.mono _ _ _
   |exact LeO.none _
   |refine LeO.ite ?_ ?_
   |refine LeO.bind ?_ (fun _=>?_)
  ·intro y0 y1 y2 y3
   unfold wire_GetRow.j1
   repeat' first
   |(with_reducible exact ih0 _ _ _ _ _)
   |(with_reducible exact ih1 _ _ _ _)
   |(with_reducible exact ih2 _ _ _ _ _)
   |(with_reducible exact wire_Get.mono _ _ _)
   |(with_reducible exact LeO.refl _)
   |(with_reducible exact LeO.none _)
   |(with_reducible refine LeO.ite ?_ ?_)
   |(with_reducible refine LeO.bind ?_ (fun _=>?_))
   |exact ih0 _ _ _ _ _
   |exact ih1 _ _ _ _
   |exact ih2 _ _ _ _ _
   |exact wire_Get.mono _ _ _
   |exact LeO.none _
   |refine LeO.ite ?_ ?_
   |refine LeO.bind ?_ (fun _=>?_)
  ·intro y0 y1 y2 y3 y4
   unfold wire_GetRow.l0
   repeat' first
   |(with_reducible exact ih0 _ _ _ _ _)
   |(with_reducible exact ih1 _ _ _ _)
   |(with_reducible exact ih2 _ _ _ _ _)
   |(with_reducible exact wire_Get.mono _ _ _)
   |(with_reducible exact LeO.refl _)
   |(with_reducible exact LeO.none _)
   |(with_reducible refine LeO.ite ?_ ?_)
   |(with_reducible refine LeO.bind ?_ (fun _=>?_))
   |exact ih0 _ _ _ _ _
   |exact ih1 _ _ _ _
   |exact ih2 _ _ _ _ _
   |exact wire_Get.mono _ _ _
   |exact LeO.none _
   |refine LeO.ite ?_ ?_
   |refine LeO.bind ?_ (fun _=>?_)
theorem wire_GetRow.mono:∀ a0 a1 a2 k,LeO (wire_GetRow.f k a0 a1 a2) (wire_GetRow.f (k+1) a0 a1 a2):=by
 intro a0 a1 a2 k
 obtain⟨ih0,ih1,ih2⟩:=wire_GetRow.Zl k
 unfold wire_GetRow.f
 repeat' first
   |(with_reducible exact ih0 _ _ _ _ _)
   |(with_reducible exact ih1 _ _ _ _)
   |(with_reducible exact ih2 _ _ _ _ _)
   |(with_reducible exact wire_Get.mono _ _ _)
   |(with_reducible exact LeO.refl _)
   |(with_reducible exact LeO.none _)
   |(with_reducible refine LeO.ite ?_ ?_)
   |(with_reducible refine LeO.bind ?_ (fun _=>?_))
   |exact ih0 _ _ _ _ _
   |exact ih1 _ _ _ _
   |exact ih2 _ _ _ _ _
   |exact wire_Get.mono _ _ _
   |exact LeO.none _
   |refine LeO.ite ?_ ?_
   |refine LeO.bind ?_ (fun _=>?_)
set_option maxHeartbeats 8000000 in
set_option maxRecDepth 100000 in
theorem wire_GetRow.calls (k:Nat) (A0:Option Addr) (c0:Nat) (l0:List Int) (a1:Int) (a2:Int) (r1:List Int) (r2:Int) (r3:Int) (w:World) (hr0:Kd.C (Kd.int .u8) w A0 l0.length l0) (hc0:l0.length≤c0) (h:wire_GetRow.f k l0 a1 a2=some (r1,r2,r3)):
  Calls Tryd.prog 31 #[.slice A0 l0.length c0,.int .i64 a1,.int .i64 a2] w fun e w'=>∃ v0_:Value,e = .returned (.tuple #[v0_,.int .i64 r2,.int .i64 r3])∧Kd.R (Kd.int .i64) 3 w' w.heap.size (fun _=>True) v0_ r1∧Below w.heap.size w w':=by
 have HR0:=Aside0.mk hr0
 have HC0:=Aside0.mk hc0
 clear hr0 hc0
 have HB:=Aside0.mk (Below.refl w.heap.size w)
 have H:((wire_Get.f k l0 a1).bind fun bt108=>(if bt108.2.2=0 then (if bt108.1<0 then (wire_GetRow.j0 k l0 bt108.1 bt108.2.1 bt108.2.2 true) else (wire_GetRow.j0 k l0 bt108.1 bt108.2.1 bt108.2.2 (decide (bt108.1>a2)))) else (wire_GetRow.j0 k l0 bt108.1 bt108.2.1 bt108.2.2 false)))=some (r1,r2,r3):=h
 clear h
 replace H:=Option.bind_eq_some_iff.mp H
 obtain⟨⟨t108,t109,t110⟩,A40,H⟩:=H
 replace H:(if t110=0 then (if t108<0 then (wire_GetRow.j0 k l0 t108 t109 t110 true) else (wire_GetRow.j0 k l0 t108 t109 t110 (decide (t108>a2)))) else (wire_GetRow.j0 k l0 t108 t109 t110 false))=some (r1,r2,r3):=H
 have A4:=Aside0.mk A40
 clear A40
 have HC5:=Aside0.mk H
 clear H
 go_enter Tryd.func31,Tryd.ntmps31
 go_upto_region 2 with(first|((with_reducible refine Qv (f:=32) rfl ?_);refine Ze (some 17) rfl rfl Tryd.func32 kr rfl #[.slice A0 l0.length c0,.int .i64 a1] rfl (by(try simp only[List.map_toArray,List.map_cons,List.map_nil]);first|done|rfl|(simp only[List.length_drop,List.length_take];rfl)) ?_;(with_reducible refine(wire_Get.calls k _ _ l0 a1 t108 t109 t110 _ ?side1 ?side2 A4.out).mono ?_);(case side1=>repeat(first|exact HR0.out|(with_reducible refine Kd.Zc ?_ _)|(with_reducible refine Kd.Za ?_ _)|(with_reducible refine Kd.Zh ?_)));(case side2=>exact HC0.out);rintro e w' ⟨rfl,⟨nd,rfl⟩⟩;refine⟨_,rfl, ?_⟩))
 (try simp only[Act.put,qS])
 go_cut [31] (fun v31 wc=>∃ (kq:Nat) (x31_4:Bool),v31 = .bool x31_4∧Aside0 (wire_GetRow.j0 kq l0 t108 t109 t110 x31_4=some (r1,r2,r3))∧Aside0 (kq≤k)∧Aside0 (Below w.heap.size w wc))
 case first=>
  have H:=HC5.out
  clear HC5
  by_cases c6:t110=0
  ·rw[if_pos c6] at H
   have c6b0:(t110==0)=true:=beq_iff_eq.mpr c6
   have c6b1:(t110 != 0)=false:=bne_eq_false_iff_eq.mpr c6
   clear c6
   (first|rw[c6b0]|(simp only[Zu,Z4];rw[c6b0])|skip)
   by_cases c7:t108<0
   ·rw[if_pos c7] at H
    have c7b0:decide (t108<0)=true:=decide_eq_true c7
    clear c7
    have H':=Aside0.mk H
    clear H
    go_wp2
    go_meet
    case rel=>exact⟨_,(true),qR,H',⟨by first|omega|exact Nat.le_refl _⟩,⟨by repeat(first|(with_reducible first|exact HB.out|apply Qe|apply Qa|apply Qf)|exact HB.out)⟩⟩
   ·rw[if_neg c7] at H
    have c7b0:decide (t108<0)=false:=decide_eq_false c7
    clear c7
    have H':=Aside0.mk H
    clear H
    go_wp2
    go_meet
    case rel=>exact⟨_,(decide (t108>a2)),qR,H',⟨by first|omega|exact Nat.le_refl _⟩,⟨by repeat(first|(with_reducible first|exact HB.out|apply Qe|apply Qa|apply Qf)|exact HB.out)⟩⟩
  ·rw[if_neg c6] at H
   have c6b0:(t110==0)=false:=beq_eq_false_iff_ne.mpr c6
   have c6b1:(t110 != 0)=true:=bne_iff_ne.mpr c6
   (first|rw[c6b0]|(simp only[Zu,Z4];rw[c6b0])|skip)
   have H':=Aside0.mk H
   clear H
   go_wp2
   go_meet
   case rel=>exact⟨_,(false),qR,H',⟨by first|omega|exact Nat.le_refl _⟩,⟨by repeat(first|(with_reducible first|exact HB.out|apply Qe|apply Qa|apply Qf)|exact HB.out)⟩⟩
 case rest=>
  clear HC5
  try clear p2
  try clear c3
  try clear c6
  try clear c6b0
  try clear c6b1
  try clear c7
  try clear c7b0
  obtain⟨kq,x31_4,rfl,HA,HJ4,HB⟩:=hcut
  cases kq with
  |zero=>exact absurd HA.out (by simp[wire_GetRow.j0])
  |succ kj4=>
   have H:=HA.out
   clear HA
   simp only[wire_GetRow.j0] at H
   have HC8:=Aside0.mk H
   clear H
   go_upto_if 31 with(fail)
   go_cut [11] (fun v11 wc=>∃ (kq:Nat) (x11_7:Int),v11 = .int .i64 x11_7∧Aside0 (wire_GetRow.j1 kq l0 t108 t109 x11_7=some (r1,r2,r3))∧Aside0 (kq≤kj4)∧Aside0 (Below w.heap.size w wc))
   case first=>
    have H:=HC8.out
    clear HC8
    by_cases c9:x31_4=true
    ·subst c9
     have H1:(wire_GetRow.j1 kj4 l0 t108 t109 83)=some (r1,r2,r3):=by rw[if_pos rfl] at H;exact H
     clear H
     have H:=H1
     clear H1
     have H':=Aside0.mk H
     clear H
     go_wp2
     go_meet
     case rel=>exact⟨_,(83),qR,H',⟨by have:=HJ4.out;first|omega|exact Nat.le_refl _⟩,⟨by repeat(first|(with_reducible first|exact HB.out|apply Qe|apply Qa|apply Qf)|exact HB.out)⟩⟩
    ·replace c9:=Bool.eq_false_iff.mpr c9
     subst c9
     have H1:(wire_GetRow.j1 kj4 l0 t108 t109 t110)=some (r1,r2,r3):=by rw[if_neg (show ¬ (false=true) by decide)] at H;exact H
     clear H
     have H:=H1
     clear H1
     have H':=Aside0.mk H
     clear H
     go_wp2
     go_meet
     case rel=>exact⟨_,(t110),qR,H',⟨by have:=HJ4.out;first|omega|exact Nat.le_refl _⟩,⟨by repeat(first|(with_reducible first|exact HB.out|apply Qe|apply Qa|apply Qf)|exact HB.out)⟩⟩
   case rest=>
    clear HC8
    try clear p2
    try clear c3
    try clear c6
    try clear c6b0
    try clear c6b1
    try clear c7
    try clear c7b0
    try clear c9
    try clear p2
    obtain⟨kq,x11_7,rfl,HA,HJ7,HB⟩:=hcut
    cases kq with
    |zero=>exact absurd HA.out (by simp[wire_GetRow.j1])
    |succ kj7=>
     have H:=HA.out
     clear HA
     simp only[wire_GetRow.j1] at H
     have H':=Aside0.mk H
     clear H
     go_wp2
     go_loopg [9,10,11,12] kj7 (fun kq v9 v10 v11 v12 w'=>∃ (x9_3:Int) (x10_3:Int) (x11_3:Int) (x12_3:List Int),v9 = .int .i64 x9_3∧v10 = .int .i64 x10_3∧v11 = .int .i64 x11_3∧Aside0 (wire_GetRow.l0 kq l0 x9_3 x10_3 x11_3 x12_3=some (r1,r2,r3))∧Aside0 (kq≤kj7)∧Aside0 (Kd.R (Kd.int .i64) 3 w' w.heap.size (fun _=>True) v12 x12_3)∧Aside0 (Below w.heap.size w w'))
     case atStart=>exact⟨(t108),(t109),(x11_7),(([]:List Int)),qR,qR,qR,H',⟨Nat.le_refl _⟩,⟨by first|exact Kd.Z1 _ _ _ _ _|exact Kd.X4 _ _ _ _ _|exact Kd.X1 _ _ _ _ _|exact Kd.X3 _ _ _ _ _|exact Kd.X2 _ _ _ _ _⟩,⟨by repeat(first|(with_reducible first|exact HB.out|apply Qe|apply Qa|apply Qf)|exact HB.out)⟩⟩
     case round=>
      clear H'
      try clear p2
      try clear c3
      try clear c6
      try clear c6b0
      try clear c6b1
      try clear c7
      try clear c7b0
      try clear c9
      try clear p2
      obtain⟨x9_3,x10_3,x11_3,x12_3,rfl,rfl,rfl,HA,HK3,HO_12,HB⟩:=hrel
      cases gk with
      |zero=>exact absurd HA.out (by simp[wire_GetRow.l0])
      |succ k3=>
       have H:=HA.out
       clear HA
       simp only[wire_GetRow.l0] at H
       by_cases c10:x11_3=0
       ·rw[if_pos c10] at H
        have c10b0:(x11_3==0)=true:=beq_iff_eq.mpr c10
        have c10b1:(x11_3 != 0)=false:=bne_eq_false_iff_eq.mpr c10
        clear c10
        by_cases c11:x9_3>0
        ·rw[if_pos c11] at H
         have c11b0:decide (0<x9_3)=true:=decide_eq_true c11
         clear c11
         replace H:=Option.bind_eq_some_iff.mp H
         obtain⟨⟨t111,t112,t113⟩,A120,H⟩:=H
         replace H:(if x12_3.length<17592186044416 then (wire_GetRow.l0 k3 l0 (wrap64 (x9_3-1)) t112 t113 (x12_3 ++ [t111])) else (none))=some (r1,r2,r3):=H
         have A12:=Aside0.mk A120
         clear A120
         by_cases c13:x12_3.length<17592186044416
         ·rw[if_pos c13] at H
          have LMc13:=Aside0.mk c13
          clear c13
          obtain⟨y114,hy114⟩:∃ y_:List Int,y_=(x12_3 ++ [t111]):=⟨_,rfl⟩
          replace H:(wire_GetRow.l0 k3 l0 (wrap64 (x9_3-1)) t112 t113 y114)=some (r1,r2,r3):=by first|(rw[hy114];with_reducible exact H)|(have H2_:=(Option.bind_some _ _).symm.trans H;rw[hy114];with_reducible exact H2_)|(have H2_:=(Option.bind_some _ _).symm.trans H;with_reducible exact H2_)|with_reducible exact H|(rw[hy114];exact H)|exact H
          have Ny114:=Aside0.mk hy114
          clear hy114
          have H':=Aside0.mk H
          clear H
          go_wp2_with (first|((with_reducible refine Qv (f:=32) rfl ?_);refine Ze (some 43) rfl rfl Tryd.func32 kr rfl #[.slice A0 l0.length c0,.int .i64 x10_3] rfl (by(try simp only[List.map_toArray,List.map_cons,List.map_nil]);first|done|rfl|(simp only[List.length_drop,List.length_take];rfl)) ?_;(with_reducible refine(wire_Get.calls k3 _ _ l0 x10_3 t111 t112 t113 _ ?side1 ?side2 A12.out).mono ?_);(case side1=>repeat(first|exact(Kd.Zb HR0.out HB.out)|(with_reducible refine Kd.Zc ?_ _)|(with_reducible refine Kd.Za ?_ _)|(with_reducible refine Kd.Zh ?_)));(case side2=>exact HC0.out);rintro e w' ⟨rfl,⟨nd,rfl⟩⟩;refine⟨_,rfl, ?_⟩)|((with_reducible refine Zs (b:=.append) (xs:=#[.tmp 47,.tmp 49]) rfl ?_);at_builtin;refine Kd.Kf (Kd.int .i64) (w0:=w) w.heap.size rfl (.tmp 47) (.tmp 49) 52 3 (.int .i64 0) 8 rfl Tryd.underlying52 El rfl (by decide) (by omega) u12 x12_3 t111 [.int .i64 t111] (fun _=>True) (fun _=>False) rfl rfl ?aP (fun _ hk=>hk.elim) ?aF ?aO ?aB ?aS ?aL ?_;(case aP=>exact rfl);(case aB=>exact(by repeat(first|(with_reducible first|exact HB.out|apply Qe|apply Qa|apply Qf)|exact HB.out)));(case aF=>exact(fun _ _=>trivial));(case aO=>exact(by(with_reducible repeat first|apply Kd.Qi|apply Kd.Qh|apply Kd.Ql);exact HO_12.out));(case aS=>exact(Qj (by repeat(first|(with_reducible first|exact HB.out|apply Qe|apply Qa|apply Qf)|exact HB.out))));(case aL=>have:=LMc13.out;omega);intro v115 w14 ho hb hg hat;rw[← Ny114.out] at ho;have n0_:=Aside0.mk (hb);have n1_:=Aside0.mk (ho);clear HB;clear HO_12;have HB:=n0_;have HO116:=n1_;clear n0_ n1_;clear ho hb hg hat))
          go_roundg k3
          case measure=>have:=HJ4.out;have:=HJ7.out;have:=HK3.out;omega
          case rel=>exact⟨(wrap64 (x9_3-1)),(t112),(t113),(y114),qR,qR,qR,H',⟨by have:=HJ4.out;have:=HJ7.out;have:=HK3.out;omega⟩,⟨by(with_reducible repeat first|apply Kd.Qi|apply Kd.Qh|apply Kd.Ql);exact HO116.out⟩,⟨by repeat(first|(with_reducible first|exact HB.out|apply Qe|apply Qa|apply Qf)|exact HB.out)⟩⟩
         ·rw[if_neg c13] at H
          exact absurd H (by simp)
        ·rw[if_neg c11] at H
         have c11b0:decide (0<x9_3)=false:=decide_eq_false c11
         clear c11
         simp only[Option.some.injEq,Prod.mk.injEq] at H
         obtain⟨rfl,rfl,rfl⟩:=H
         go_wp2
         go_ret3
         exact⟨_,by first|rfl|(simp[Qo,Qn] <;> rfl)|(simp[*,Qo,Qn] <;> rfl),by(with_reducible repeat first|apply Kd.Qi|apply Kd.Qh|apply Kd.Ql);exact HO_12.out,by repeat(first|(with_reducible first|exact HB.out|apply Qe|apply Qa|apply Qf)|exact HB.out)⟩
       ·rw[if_neg c10] at H
        have c10b0:(x11_3==0)=false:=beq_eq_false_iff_ne.mpr c10
        have c10b1:(x11_3 != 0)=true:=bne_iff_ne.mpr c10
        simp only[Option.some.injEq,Prod.mk.injEq] at H
        obtain⟨rfl,rfl,rfl⟩:=H
        go_wp2
        go_ret3
        exact⟨_,by first|rfl|(simp[Qo,Qn] <;> rfl)|(simp[*,Qo,Qn] <;> rfl),by first|exact Kd.Z1 _ _ _ _ _|exact Kd.X4 _ _ _ _ _|exact Kd.X1 _ _ _ _ _|exact Kd.X3 _ _ _ _ _|exact Kd.X2 _ _ _ _ _,by repeat(first|(with_reducible first|exact HB.out|apply Qe|apply Qa|apply Qf)|exact HB.out)⟩
def newelref08_Same.l0:Nat→List Int→List Int→Int→Option (Bool)
 |0,_,_,_=>none
 |k+1,x0,x1,x5=>if x5<(x0.length:Int) then (if 0≤x5 then (if x5<(x1.length:Int) then (if (rd x0 x5)=(rd x1 x5) then (newelref08_Same.l0 k x0 x1 (wrap64 (x5+1))) else (some false)) else (none)) else (none)) else (some true)
def newelref08_Same.f (k:Nat) (l0:List Int) (l1:List Int):Option (Bool):=if (l0.length:Int)=(l1.length:Int) then (newelref08_Same.l0 k l0 l1 0) else (some false)
theorem newelref08_Same.Zl:∀ k,(∀ y0 y1 y2,LeO (newelref08_Same.l0 k y0 y1 y2) (newelref08_Same.l0 (k+1) y0 y1 y2))
 |0=>fun _ _ _ r h=>by simp[newelref08_Same.l0] at h
 |k+1=>by
  have ih0:=newelref08_Same.Zl k
  ·intro y0 y1 y2
   unfold newelref08_Same.l0
   repeat' first
   |(with_reducible exact ih0 _ _ _)
   |(with_reducible exact LeO.refl _)
   |(with_reducible exact LeO.none _)
   |(with_reducible refine LeO.ite ?_ ?_)
   |(with_reducible refine LeO.bind ?_ (fun _=>?_))
   |exact ih0 _ _ _
   |exact LeO.none _
   |refine LeO.ite ?_ ?_
   |refine LeO.bind ?_ (fun _=>?_)
theorem newelref08_Same.mono:∀ a0 a1 k,LeO (newelref08_Same.f k a0 a1) (newelref08_Same.f (k+1) a0 a1):=by
 intro a0 a1 k
 have ih0:=newelref08_Same.Zl k
 unfold newelref08_Same.f
 repeat' first
   |(with_reducible exact ih0 _ _ _)
   |(with_reducible exact LeO.refl _)
   |(with_reducible exact LeO.none _)
   |(with_reducible refine LeO.ite ?_ ?_)
   |(with_reducible refine LeO.bind ?_ (fun _=>?_))
   |exact ih0 _ _ _
   |exact LeO.none _
   |refine LeO.ite ?_ ?_
   |refine LeO.bind ?_ (fun _=>?_)
set_option maxHeartbeats 8000000 in
set_option maxRecDepth 100000 in
theorem newelref08_Same.calls (k:Nat) (A0:Option Addr) (c0:Nat) (l0:List Int) (A1:Option Addr) (c1:Nat) (l1:List Int) (r:Bool) (w:World) (hr0:Kd.C (Kd.int .u8) w A0 l0.length l0) (hc0:l0.length≤c0) (hr1:Kd.C (Kd.int .u8) w A1 l1.length l1) (hc1:l1.length≤c1) (h:newelref08_Same.f k l0 l1=some r):
  Calls Tryd.prog 17 #[.slice A0 l0.length c0,.slice A1 l1.length c1] w fun e w'=>e = .returned (.bool r)∧Drawn0 w w':=by
 have HR0:=Aside0.mk hr0
 have HC0:=Aside0.mk hc0
 clear hr0 hc0
 have HR1:=Aside0.mk hr1
 have HC1:=Aside0.mk hc1
 clear hr1 hc1
 have H:(if (l0.length:Int)=(l1.length:Int) then (newelref08_Same.l0 k l0 l1 0) else (some false))=some r:=h
 clear h
 by_cases c3:(l0.length:Int)=(l1.length:Int)
 ·rw[if_pos c3] at H
  have c3b0:((l0.length:Int)==(l1.length:Int))=true:=beq_iff_eq.mpr c3
  have c3b1:((l0.length:Int) != (l1.length:Int))=false:=bne_eq_false_iff_eq.mpr c3
  have c3b2:(l0.length==l1.length)=true:=by first|simpa using c3|(simp at c3 ⊢;omega)
  clear c3
  have H':=Aside0.mk H
  clear H
  go_enter Tryd.func17,Tryd.ntmps17
  go_wp2
  repeat(go_quiet (fail);try go_wp2)
  go_loopg [5] k (fun kq v5 w'=>∃ (x5_1:Int),v5 = .int .i64 x5_1∧Aside0 (newelref08_Same.l0 kq l0 l1 x5_1=some r)∧Aside0 (kq≤k)∧Drawn0 w w')
  case atStart=>exact⟨(0),qR,H',⟨Nat.le_refl _⟩,by repeat(first|exact Drawn0.refl _|apply Drawn0.step)⟩
  case round=>
   clear H'
   try clear c1
   try clear p2
   try clear c3
   try clear c3b0
   try clear c3b1
   try clear c3b2
   obtain⟨x5_1,rfl,HA,HK1,⟨m1,rfl⟩⟩:=hrel
   cases gk with
   |zero=>exact absurd HA.out (by simp[newelref08_Same.l0])
   |succ k1=>
    have H:=HA.out
    clear HA
    simp only[newelref08_Same.l0] at H
    by_cases c4:x5_1<(l0.length:Int)
    ·rw[if_pos c4] at H
     have c4b0:decide (x5_1<(l0.length:Int))=true:=decide_eq_true c4
     clear c4
     by_cases c5:0≤x5_1
     ·rw[if_pos c5] at H
      have c5b0:decide (0≤x5_1)=true:=decide_eq_true c5
      clear c5
      by_cases c6:x5_1<(l1.length:Int)
      ·rw[if_pos c6] at H
       have c6b0:decide (x5_1<(l1.length:Int))=true:=decide_eq_true c6
       clear c6
       by_cases c7:(rd l0 x5_1)=(rd l1 x5_1)
       ·rw[if_pos c7] at H
        have c7b0:((rd l0 x5_1)==(rd l1 x5_1))=true:=beq_iff_eq.mpr c7
        have c7b1:((rd l0 x5_1) != (rd l1 x5_1))=false:=bne_eq_false_iff_eq.mpr c7
        clear c7
        have H':=Aside0.mk H
        clear H
        have p180:0≤(x5_1:Int):=of_decide_eq_true (by first|(with_reducible assumption)|assumption)
        have q180:x5_1<(l0.length:Int):=of_decide_eq_true (by first|(with_reducible assumption)|assumption)
        obtain⟨ad180,e180,hx180_0⟩:=Kd.Zr HR0.out x5_1 p180 q180
        cases e180
        replace p180:=eq_true p180
        replace q180:=eq_true q180
        have p181:0≤(x5_1:Int):=of_decide_eq_true (by first|(with_reducible assumption)|assumption)
        have q181:x5_1<(l1.length:Int):=of_decide_eq_true (by first|(with_reducible assumption)|assumption)
        obtain⟨ad181,e181,hx181_0⟩:=Kd.Zr HR1.out x5_1 p181 q181
        cases e181
        replace p181:=eq_true p181
        replace q181:=eq_true q181
        go_wp2
        repeat(go_quiet (fail);try go_wp2)
        go_roundg k1
        case measure=>have:=HK1.out;omega
        case rel=>exact⟨(wrap64 (x5_1+1)),qR,H',⟨by have:=HK1.out;omega⟩,by repeat(first|exact Drawn0.refl _|apply Drawn0.step)⟩
       ·rw[if_neg c7] at H
        have c7b0:((rd l0 x5_1)==(rd l1 x5_1))=false:=beq_eq_false_iff_ne.mpr c7
        have c7b1:((rd l0 x5_1) != (rd l1 x5_1))=true:=bne_iff_ne.mpr c7
        obtain rfl:=Option.some.inj H
        have p180:0≤(x5_1:Int):=of_decide_eq_true (by first|(with_reducible assumption)|assumption)
        have q180:x5_1<(l0.length:Int):=of_decide_eq_true (by first|(with_reducible assumption)|assumption)
        obtain⟨ad180,e180,hx180_0⟩:=Kd.Zr HR0.out x5_1 p180 q180
        cases e180
        replace p180:=eq_true p180
        replace q180:=eq_true q180
        have p181:0≤(x5_1:Int):=of_decide_eq_true (by first|(with_reducible assumption)|assumption)
        have q181:x5_1<(l1.length:Int):=of_decide_eq_true (by first|(with_reducible assumption)|assumption)
        obtain⟨ad181,e181,hx181_0⟩:=Kd.Zr HR1.out x5_1 p181 q181
        cases e181
        replace p181:=eq_true p181
        replace q181:=eq_true q181
        go_wp2
        repeat(go_quiet (fail);try go_wp2)
        go_ret
        exact⟨qR,by repeat(first|exact Drawn0.refl _|apply Drawn0.step)⟩
      ·rw[if_neg c6] at H
       exact absurd H (by simp)
     ·rw[if_neg c5] at H
      exact absurd H (by simp)
    ·rw[if_neg c4] at H
     have c4b0:decide (x5_1<(l0.length:Int))=false:=decide_eq_false c4
     clear c4
     obtain rfl:=Option.some.inj H
     go_wp2
     repeat(go_quiet (fail);try go_wp2)
     go_ret
     exact⟨qR,by repeat(first|exact Drawn0.refl _|apply Drawn0.step)⟩
 ·rw[if_neg c3] at H
  have c3b0:((l0.length:Int)==(l1.length:Int))=false:=beq_eq_false_iff_ne.mpr c3
  have c3b1:((l0.length:Int) != (l1.length:Int))=true:=bne_iff_ne.mpr c3
  have c3b2:(l0.length==l1.length)=false:=by first|simpa using c3|(simp at c3 ⊢;omega)
  obtain rfl:=Option.some.inj H
  go_enter Tryd.func17,Tryd.ntmps17
  go_wp2
  repeat(go_quiet (fail);try go_wp2)
  go_ret
  exact⟨qR,by repeat(first|exact Drawn0.refl _|apply Drawn0.step)⟩
def flash_may.f (a0_0:Int) (a0_1:Int) (a0_2:Int) (l0_3:List Int):Option (Bool):=if a0_0≥1 then (if a0_0≤1099511627776 then (if a0_2≥0 then (if a0_2≤5 then (some (decide ((l0_3.length:Int)≤4096))) else (some false)) else (some false)) else (some false)) else (some false)
set_option maxHeartbeats 8000000 in
set_option maxRecDepth 100000 in
theorem flash_may.calls (a0_0:Int) (a0_1:Int) (a0_2:Int) (A0_3:Option Addr) (c0_3:Nat) (l0_3:List Int) (r:Bool) (w:World) (hr0_3:Kd.C (Kd.int .u8) w A0_3 l0_3.length l0_3) (hc0_3:l0_3.length≤c0_3) (h:flash_may.f a0_0 a0_1 a0_2 l0_3=some r):
  Calls Tryd.prog 27 #[.agg #[.int .i64 a0_0,.int .i64 a0_1,.int .i64 a0_2,.slice A0_3 l0_3.length c0_3]] w fun e w'=>e = .returned (.bool r)∧Below w.heap.size w w':=by
 have hu26:=Tryd.underlying26
 have HR0_3:=Aside0.mk hr0_3
 have HC0_3:=Aside0.mk hc0_3
 clear hr0_3 hc0_3
 have HB:=Aside0.mk (Below.refl w.heap.size w)
 have H:(if a0_0≥1 then (if a0_0≤1099511627776 then (if a0_2≥0 then (if a0_2≤5 then (some (decide ((l0_3.length:Int)≤4096))) else (some false)) else (some false)) else (some false)) else (some false))=some r:=h
 clear h
 by_cases c2:a0_0≥1
 ·rw[if_pos c2] at H
  have c2b0:decide (1≤a0_0)=true:=decide_eq_true c2
  clear c2
  by_cases c3:a0_0≤1099511627776
  ·rw[if_pos c3] at H
   have c3b0:decide (a0_0≤1099511627776)=true:=decide_eq_true c3
   clear c3
   by_cases c4:a0_2≥0
   ·rw[if_pos c4] at H
    have c4b0:decide (0≤a0_2)=true:=decide_eq_true c4
    clear c4
    by_cases c5:a0_2≤5
    ·rw[if_pos c5] at H
     have c5b0:decide (a0_2≤5)=true:=decide_eq_true c5
     clear c5
     obtain rfl:=Option.some.inj H
     go_enter Tryd.func27,Tryd.ntmps27
     go_wp2_with (first|((with_reducible refine Qz (N:=1) rfl ?_);(try(refine Zw (by rfl) ?_;dsimp only));refine Q7 ?hg (N:=1) ?hd (cs:=#[.int .i64 a0_0,.int .i64 a0_1,.int .i64 a0_2,.slice A0_3 l0_3.length c0_3]) (t:=26) ?hr ?_;(case hd=>rfl);(case hg=>rfl);(case hr=>first|(go_simp;done)|(go_simp;rfl));intro gb102 hg w6 hbox hb;have n0_:=Aside0.mk (Qr (by repeat(first|(with_reducible first|exact HB.out|apply Qe|apply Qa|apply Qf)|exact HB.out)) hb);have n1_:=Aside0.mk (hbox);have n2_:=Aside0.mk ((by rw[hg];exact(Qj (by repeat(first|(with_reducible first|exact HB.out|apply Qe|apply Qa|apply Qf)|exact HB.out))):w.heap.size≤gb102));have n3_:=Aside0.mk ((by rw[hg];exact(Qj (by repeat(first|(with_reducible first|exact HB.out|apply Qe|apply Qa|apply Qf)|exact HB.out))):w.heap.size≤gb102));clear HB;have HB:=n0_;have BK102:=n1_;have GW102:=n2_;have GE102:=n3_;clear n0_ n1_ n2_ n3_;clear hb hbox hg;obtain⟨hcz7_0,hcz7_1,hcz7_2,hcz7_3,hfz7_0,hfz7_1,hfz7_2,hfz7_3⟩:=qD4 BK102.out))
     go_ret
     exact⟨by first|rfl|(simp[Qo,Qn] <;> rfl)|(simp[*,Qo,Qn] <;> rfl),by repeat(first|(with_reducible first|exact HB.out|apply Qe|apply Qa|apply Qf|refine Qg ?_ GE102.out)|exact HB.out)⟩
    ·rw[if_neg c5] at H
     have c5b0:decide (a0_2≤5)=false:=decide_eq_false c5
     clear c5
     obtain rfl:=Option.some.inj H
     go_enter Tryd.func27,Tryd.ntmps27
     go_wp2_with (first|((with_reducible refine Qz (N:=1) rfl ?_);(try(refine Zw (by rfl) ?_;dsimp only));refine Q7 ?hg (N:=1) ?hd (cs:=#[.int .i64 a0_0,.int .i64 a0_1,.int .i64 a0_2,.slice A0_3 l0_3.length c0_3]) (t:=26) ?hr ?_;(case hd=>rfl);(case hg=>rfl);(case hr=>first|(go_simp;done)|(go_simp;rfl));intro gb102 hg w8 hbox hb;have n0_:=Aside0.mk (Qr (by repeat(first|(with_reducible first|exact HB.out|apply Qe|apply Qa|apply Qf)|exact HB.out)) hb);have n1_:=Aside0.mk (hbox);have n2_:=Aside0.mk ((by rw[hg];exact(Qj (by repeat(first|(with_reducible first|exact HB.out|apply Qe|apply Qa|apply Qf)|exact HB.out))):w.heap.size≤gb102));have n3_:=Aside0.mk ((by rw[hg];exact(Qj (by repeat(first|(with_reducible first|exact HB.out|apply Qe|apply Qa|apply Qf)|exact HB.out))):w.heap.size≤gb102));clear HB;have HB:=n0_;have BK102:=n1_;have GW102:=n2_;have GE102:=n3_;clear n0_ n1_ n2_ n3_;clear hb hbox hg;obtain⟨hcz9_0,hcz9_1,hcz9_2,hcz9_3,hfz9_0,hfz9_1,hfz9_2,hfz9_3⟩:=qD4 BK102.out))
     go_ret
     exact⟨by first|rfl|(simp[Qo,Qn] <;> rfl)|(simp[*,Qo,Qn] <;> rfl),by repeat(first|(with_reducible first|exact HB.out|apply Qe|apply Qa|apply Qf|refine Qg ?_ GE102.out)|exact HB.out)⟩
   ·rw[if_neg c4] at H
    have c4b0:decide (0≤a0_2)=false:=decide_eq_false c4
    clear c4
    obtain rfl:=Option.some.inj H
    go_enter Tryd.func27,Tryd.ntmps27
    go_wp2_with (first|((with_reducible refine Qz (N:=1) rfl ?_);(try(refine Zw (by rfl) ?_;dsimp only));refine Q7 ?hg (N:=1) ?hd (cs:=#[.int .i64 a0_0,.int .i64 a0_1,.int .i64 a0_2,.slice A0_3 l0_3.length c0_3]) (t:=26) ?hr ?_;(case hd=>rfl);(case hg=>rfl);(case hr=>first|(go_simp;done)|(go_simp;rfl));intro gb102 hg w10 hbox hb;have n0_:=Aside0.mk (Qr (by repeat(first|(with_reducible first|exact HB.out|apply Qe|apply Qa|apply Qf)|exact HB.out)) hb);have n1_:=Aside0.mk (hbox);have n2_:=Aside0.mk ((by rw[hg];exact(Qj (by repeat(first|(with_reducible first|exact HB.out|apply Qe|apply Qa|apply Qf)|exact HB.out))):w.heap.size≤gb102));have n3_:=Aside0.mk ((by rw[hg];exact(Qj (by repeat(first|(with_reducible first|exact HB.out|apply Qe|apply Qa|apply Qf)|exact HB.out))):w.heap.size≤gb102));clear HB;have HB:=n0_;have BK102:=n1_;have GW102:=n2_;have GE102:=n3_;clear n0_ n1_ n2_ n3_;clear hb hbox hg;obtain⟨hcz11_0,hcz11_1,hcz11_2,hcz11_3,hfz11_0,hfz11_1,hfz11_2,hfz11_3⟩:=qD4 BK102.out))
    go_ret
    exact⟨by first|rfl|(simp[Qo,Qn] <;> rfl)|(simp[*,Qo,Qn] <;> rfl),by repeat(first|(with_reducible first|exact HB.out|apply Qe|apply Qa|apply Qf|refine Qg ?_ GE102.out)|exact HB.out)⟩
  ·rw[if_neg c3] at H
   have c3b0:decide (a0_0≤1099511627776)=false:=decide_eq_false c3
   clear c3
   obtain rfl:=Option.some.inj H
   go_enter Tryd.func27,Tryd.ntmps27
   go_wp2_with (first|((with_reducible refine Qz (N:=1) rfl ?_);(try(refine Zw (by rfl) ?_;dsimp only));refine Q7 ?hg (N:=1) ?hd (cs:=#[.int .i64 a0_0,.int .i64 a0_1,.int .i64 a0_2,.slice A0_3 l0_3.length c0_3]) (t:=26) ?hr ?_;(case hd=>rfl);(case hg=>rfl);(case hr=>first|(go_simp;done)|(go_simp;rfl));intro gb102 hg w12 hbox hb;have n0_:=Aside0.mk (Qr (by repeat(first|(with_reducible first|exact HB.out|apply Qe|apply Qa|apply Qf)|exact HB.out)) hb);have n1_:=Aside0.mk (hbox);have n2_:=Aside0.mk ((by rw[hg];exact(Qj (by repeat(first|(with_reducible first|exact HB.out|apply Qe|apply Qa|apply Qf)|exact HB.out))):w.heap.size≤gb102));have n3_:=Aside0.mk ((by rw[hg];exact(Qj (by repeat(first|(with_reducible first|exact HB.out|apply Qe|apply Qa|apply Qf)|exact HB.out))):w.heap.size≤gb102));clear HB;have HB:=n0_;have BK102:=n1_;have GW102:=n2_;have GE102:=n3_;clear n0_ n1_ n2_ n3_;clear hb hbox hg;obtain⟨hcz13_0,hcz13_1,hcz13_2,hcz13_3,hfz13_0,hfz13_1,hfz13_2,hfz13_3⟩:=qD4 BK102.out))
   go_ret
   exact⟨by first|rfl|(simp[Qo,Qn] <;> rfl)|(simp[*,Qo,Qn] <;> rfl),by repeat(first|(with_reducible first|exact HB.out|apply Qe|apply Qa|apply Qf|refine Qg ?_ GE102.out)|exact HB.out)⟩
 ·rw[if_neg c2] at H
  have c2b0:decide (1≤a0_0)=false:=decide_eq_false c2
  clear c2
  obtain rfl:=Option.some.inj H
  go_enter Tryd.func27,Tryd.ntmps27
  go_wp2_with (first|((with_reducible refine Qz (N:=1) rfl ?_);(try(refine Zw (by rfl) ?_;dsimp only));refine Q7 ?hg (N:=1) ?hd (cs:=#[.int .i64 a0_0,.int .i64 a0_1,.int .i64 a0_2,.slice A0_3 l0_3.length c0_3]) (t:=26) ?hr ?_;(case hd=>rfl);(case hg=>rfl);(case hr=>first|(go_simp;done)|(go_simp;rfl));intro gb102 hg w14 hbox hb;have n0_:=Aside0.mk (Qr (by repeat(first|(with_reducible first|exact HB.out|apply Qe|apply Qa|apply Qf)|exact HB.out)) hb);have n1_:=Aside0.mk (hbox);have n2_:=Aside0.mk ((by rw[hg];exact(Qj (by repeat(first|(with_reducible first|exact HB.out|apply Qe|apply Qa|apply Qf)|exact HB.out))):w.heap.size≤gb102));have n3_:=Aside0.mk ((by rw[hg];exact(Qj (by repeat(first|(with_reducible first|exact HB.out|apply Qe|apply Qa|apply Qf)|exact HB.out))):w.heap.size≤gb102));clear HB;have HB:=n0_;have BK102:=n1_;have GW102:=n2_;have GE102:=n3_;clear n0_ n1_ n2_ n3_;clear hb hbox hg;obtain⟨hcz15_0,hcz15_1,hcz15_2,hcz15_3,hfz15_0,hfz15_1,hfz15_2,hfz15_3⟩:=qD4 BK102.out))
  go_ret
  exact⟨by first|rfl|(simp[Qo,Qn] <;> rfl)|(simp[*,Qo,Qn] <;> rfl),by repeat(first|(with_reducible first|exact HB.out|apply Qe|apply Qa|apply Qf|refine Qg ?_ GE102.out)|exact HB.out)⟩
end Go.Proofs.YtickbejailcehaaDoor.C
namespace Go.Proofs.YtickbejailcehaaDoor.C
open Go.RowKit Go.Proofs.YtickbejailcehaaDoorW.PrintWords Go.Proofs.YtickbejailcehaaDoorW.PrintLast Go.Proofs.YtickbejailcehaaDoorW.PrintMore
set_option linter.unusedVariables false
def Ky {α:Type} (ys xs:List α):List α:=ys.take (min ys.length xs.length)++xs.drop (min ys.length xs.length)
open Kd in
theorem Mz {P:Program} {α:Type} {enc:α→Value} {h1:∀ x,(enc x).oneCell'=true} (d:α) {W:World} (base:Nat) (t t' e ty:TypeId) (ht:P.underlying t=some (.slice e)) (hinfo:(P.info? e).map (·.size)=some 1)
    (v:Value) (xs ys:List α) (A:Option Addr) (m c:Nat) (ok:Nat→Prop) (HO:(Kd.scalar enc h1).R e W base ok v xs) (HR:(Kd.scalar enc h1).C W A m ys):
    ∃ w1,(Builtin.copy_ #[t,t'] ty #[v,.slice A m c]).run P W = .ok (goInt ((min m xs.length:Nat):Int)) w1∧(Kd.scalar enc h1).R e w1 base ok v (ys.take (min m xs.length)++xs.drop (min m xs.length))∧W.grownBy w1 v.ownBlock:=by
  have hR:=Zv (enc:=enc) (d:=d) (h1:=h1) HR
  have hm:ys.length=m:=hR.1
  have hown:=Gl HO
  rcases Nat.eq_zero_or_pos (min m xs.length) with h0|hp
  · obtain⟨A',c',hv⟩:=Kn hown
    refine⟨W, ?_,(by rw[h0,List.take_zero,List.drop_zero,List.nil_append];exact HO),(World.grownBy.refl W _)⟩
    rw[h0,hv]
    exact run_copy_none W t t' ty e A' A xs.length c' m c ht hinfo h0
  · obtain⟨ad,hA,hc⟩:=hR.2.2 (by omega)
    rcases hown.2 with⟨_,hx0⟩|⟨g,cap,cur,hv,hb,hh,hnc,hcm,hcs,htake⟩
    · omega
    have hcs1:cur.size=cap:=by omega
    have hsrc:∀ j u,(encs enc (ys.take (min m xs.length)))[j]?=some u→W.cell? (ad.add j)=some u:=by
      intro j u hu
      have hj:j<(ys.take (min m xs.length)).length:=by
        rcases Nat.lt_or_ge j (ys.take (min m xs.length)).length with h|h
        · exact h
        · rw[List.getElem?_eq_none (by rw[Xp];exact h)] at hu
          cases hu
      have hjm:j<min m xs.length:=by rw[List.length_take] at hj;omega
      rw[Ue (d:=d) _ j hj] at hu
      rw[hc j (by omega),← hu]
      simp[List.getD_eq_getElem?_getD,hjm]
    have hkl:(encs enc (ys.take (min m xs.length))).length=min m xs.length:=by rw[Xp,List.length_take];omega
    have hr:=run_copy_cells (P:=P) W t t' ty e g 0 xs.length cap ad m c (encs enc (ys.take (min m xs.length))) ht hinfo (by rw[hkl]) hsrc
      (fun j hj=>by rw[cell_of_row W g _ cur e (0,0) hh];simp;omega) (fun j _=>Q6 hh _) (by intro u hu;simp only[encs,List.mem_map] at hu;obtain⟨q,_,rfl⟩:=hu;exact h1 q)
    obtain⟨cur',h3,h4,h5⟩:=Y6 (encs enc (ys.take (min m xs.length))) 0 W cur hh (by rw[hkl];omega)
    obtain⟨s1,s2,s3,s4⟩:=Y3 g (encs enc (ys.take (min m xs.length))) 0 W
    refine⟨_,(by rw[hv,hA,hr,hkl]),Ke (h1:=h1) ?_ HO.1,s1,s2,s3,by rw[s4];exact Nat.le_refl _,fun k _ hk=>Y7 _ _ k (fun he=>hk (by rw[hv,he];simp[Value.ownBlock]))⟩
    have hln:(ys.take (min m xs.length)++xs.drop (min m xs.length)).length=xs.length:=by
      rw[List.length_append,List.length_take,List.length_drop]
      omega
    rw[hln]
    refine⟨by rw[Xp,hln,Nat.mul_one],.inr ⟨g,cap,cur',hv,hb,h3,hnc,hcm,by rw[h4,hcs], ?_⟩⟩
    rw[h5,List.take_zero,List.nil_append,hkl,Nat.zero_add,Kx,Nat.mul_one]
    rw[List.take_append,hkl,List.take_of_length_le (by rw[hkl];omega)]
    congr 1
    have htk:cur.toList.take xs.length=encs enc xs:=by rw[← htake,Nat.mul_one]
    have hd:encs enc (xs.drop (min m xs.length))=(encs enc xs).drop (min m xs.length):=by simp[encs,List.map_drop]
    rw[hd,← htk,List.drop_take]
theorem Lh {P:Program} {α:Type} {enc:α→Value} {h1:∀ x,(enc x).oneCell'=true} (d:α) {w0 W:World} {ops:Array Oper} {o:Oper} {a:Act} {Kc:Act→World→Prop} {Q:Exit→Act→World→Prop} (base:Nat) (hw:Region.wanted o (yielded ops a.tmps)=true) (s x:Operand) (t t' e:TypeId)
    (ho:o.op = .call {callee:=.builtin .copy,args:=#[s,x],argTypes:=#[t,t']}) (ht:P.underlying t=some (.slice e)) (hinfo:(P.info? e).map (·.size)=some 1)
    (v:Value) (xs ys:List α) (A:Option Addr) (m c:Nat) (ok:Nat→Prop) (hs:a.eval s=v) (hx:a.eval x = .slice A m c)
    (HO:(Kd.scalar enc h1).R e W base ok v xs) (HR:(Kd.scalar enc h1).C W A m ys) (HB:Below base w0 W) (hbase:base≤W.heap.size)
    (h:∀ w1,(Kd.scalar enc h1).R e w1 base ok v (ys.take (min m xs.length)++xs.drop (min m xs.length))→Below base w0 w1→W.grownBy w1 v.ownBlock→Kc (a.put o.dst (.int .i64 ((min m xs.length:Nat):Int))) w1):
    if Region.wanted o (yielded ops a.tmps)=true then Oper.wp P o a W Kc Q else Kc (a.put o.dst undef) W:=by
  obtain⟨w1,hr,hR,hg⟩:=Mz (P:=P) d base t t' e o.type ht hinfo v xs ys A m c ok HO HR
  rw[if_pos hw]
  unfold Oper.wp execOp
  simp only[ho,resolve,invoke,builtin,Sem.run_bind,Sem.run_pure,Result.andThen_ok,List.map_toArray,List.map_cons,List.map_nil,hs,hx,hr]
  exact h w1 hR (HB.grown hg hbase (Yn (Kd.Gl HO))) hg
theorem U4 {P:Program} {w0 W:World} {ops:Array Oper} {o:Oper} {a:Act} {Kc:Act→World→Prop} {Q:Exit→Act→World→Prop} (base:Nat) (hw:Region.wanted o (yielded ops a.tmps)=true) (s x:Operand) (t t' e:TypeId)
    (ho:o.op = .call {callee:=.builtin .copy,args:=#[s,x],argTypes:=#[t,t']}) (ht:P.underlying t=some (.slice e)) (hinfo:(P.info? e).map (·.size)=some 1)
    (v:Value) (xs ys:List Int) (A:Option Addr) (c:Nat) (ok:Nat→Prop) (hs:a.eval s=v) (hx:a.eval x = .slice A ys.length c)
    (HO:(Kd.int .u8).R e W base ok v xs) (HR:(Kd.int .u8).C W A ys.length ys) (HB:Below base w0 W) (hbase:base≤W.heap.size)
    (h:∀ w1,(Kd.int .u8).R e w1 base ok v (Ky ys xs)→Below base w0 w1→W.grownBy w1 v.ownBlock→Kc (a.put o.dst (.int .i64 ((min ys.length xs.length:Nat):Int))) w1):
    if Region.wanted o (yielded ops a.tmps)=true then Oper.wp P o a W Kc Q else Kc (a.put o.dst undef) W:=by
  refine Lh (enc:=Value.int .u8) (h1:=fun _=>rfl) (0:Int) base hw s x t t' e ho ht hinfo v xs ys A ys.length c ok hs hx HO HR HB hbase ?_
  intro w1 h1 h2 h3
  refine h w1 ?_ h2 h3
  unfold Ky
  exact h1
def Xi (c:Bool) (a b:List Int):List Int:=if c=true then a else b
def pickF (c:Bool):Value:=match c with|true=>.func (.func 23) #[] #[]|false=>.func (.func 22) #[] #[]
theorem K7 (A:Option Addr) (n m c:Nat):(Value.slice A n c).ownBlock=(Value.slice A m c).ownBlock:=by cases A <;> rfl
section
variable {P : Program} {ops : Array Oper} {Q : Exit → Act → World → Prop}
theorem Mt {oi:Oper} {N:Option Tmp} {a:Act} {w:World} {K:Act→World→Prop} {f:FuncId} {fn:Func} {x:Operand} {xs:Array Operand} {ts:Array TypeId} (hf:P.funcs[f]?=some fn) (hname:(fn.name == "runtime.NumGoroutine")=false) (hb:fn.body.isSome=true) (args:Array Value)
    (hw:Region.wanted oi (yielded ops a.tmps)=true) (hN:oi.dst=N) (hop:oi.op = .call {callee:=.value x,args:=xs,argTypes:=ts}) (hx:a.eval x = .func (.func f) #[] #[]) (hargs:xs.map a.eval=args)
    (h:Calls P f args w fun e w'=>∃ v,e = .returned v∧K (a.put N v) w'):if Region.wanted oi (yielded ops a.tmps)=true then Oper.wp P oi a w K Q else K (a.put N undef) w:=by
  refine Em f args hw hN ?_ h
  have he:=Vj hf hname hb args w
  unfold execOp
  simp[hop,hx,resolve,Deferred.ofValue,invoke,hargs,he]
end
set_option maxRecDepth 100000 in
theorem V0 (g:Nat) (w:World):Calls Tryd.prog 23 #[.pointer (some ⟨g,0,none⟩)] w fun e w'=>e = .returned (.pointer (some ⟨g,0,none⟩))∧w'=w:=by
  go_enter Tryd.func23,Tryd.ntmps23
  go_wp2
  go_ret
  exact⟨rfl,rfl⟩
set_option maxRecDepth 100000 in
theorem Vz (g:Nat) (w:World):Calls Tryd.prog 22 #[.pointer (some ⟨g,0,none⟩)] w fun e w'=>e = .returned (.pointer (some ⟨g,1,none⟩))∧w'=w:=by
  go_enter Tryd.func22,Tryd.ntmps22
  go_wp2
  go_ret
  exact⟨rfl,rfl⟩
end Go.Proofs.YtickbejailcehaaDoor.C
set_option linter.unusedVariables false
namespace Go.Proofs.YtickbejailcehaaDoor.C
open Go.RowKit Go.Proofs.YtickbejailcehaaDoorW.PrintWords Go.Proofs.YtickbejailcehaaDoorW.PrintLast Go.Proofs.YtickbejailcehaaDoorW.PrintMore
theorem bel {B:Nat} {w W:World} (h:Below B w W:=by repeat(first|(with_reducible first|exact HB.out|apply Qe|apply Qa|apply Qf|refine Qg ?_ (Aside0.out (by assumption)))|exact HB.out|(refine Qg ?_ (Aside0.out (by assumption))))):Below B w W:=h
theorem bka {w W:World} {g:Nat} {o:Obj} (b:Aside0 (w.heap[g]?=some o)) (e:W.heap[g]?=some o:=by(with_reducible repeat(first|refine Qb ?_ _|refine Qd ?_|refine Qc ?_ _|refine Qs ?_ (Aside0.out (by assumption)) _));exact Aside0.out (by assumption)):W.heap[g]?=some o:=e
theorem sRb {α:Type} {d:Kd α} {e0:TypeId} {w w1 w2:World} {base:Nat} {ok:Nat→Prop} {v:Value} {xs:List α} (b:Aside0 (d.R e0 w base ok v xs)) (h:Below w1.heap.size w1 w2) (e:d.R e0 w1 base ok v xs:=by(with_reducible repeat first|apply Kd.Qi|apply Kd.Qh|apply Kd.Ql);exact Aside0.out (by assumption)):Aside0 (d.R e0 w2 base ok v xs):=⟨Kd.Q1 e h⟩
theorem sBk {w w1 w2:World} {g:Nat} {o:Obj} (b:Aside0 (w.heap[g]?=some o)) (h:Below w1.heap.size w1 w2) (e:w1.heap[g]?=some o:=by(with_reducible repeat(first|refine Qb ?_ _|refine Qd ?_|refine Qc ?_ _|refine Qs ?_ (Aside0.out (by assumption)) _));exact Aside0.out (by assumption)):Aside0 (w2.heap[g]?=some o):=⟨Qp e h⟩
theorem sHb {w W w2:World} (h:Below W.heap.size W w2) (b:Below w.heap.size w W:=by repeat(first|(with_reducible first|exact HB.out|apply Qe|apply Qa|apply Qf|refine Qg ?_ (Aside0.out (by assumption)))|exact HB.out|(refine Qg ?_ (Aside0.out (by assumption))))):Aside0 (Below w.heap.size w w2):=⟨Qr b h⟩
theorem sGe {w W:World} {g:Nat} (h:g=W.heap.size) (b:Below w.heap.size w W:=by repeat(first|(with_reducible first|exact HB.out|apply Qe|apply Qa|apply Qf|refine Qg ?_ (Aside0.out (by assumption)))|exact HB.out|(refine Qg ?_ (Aside0.out (by assumption))))):Aside0 (w.heap.size≤g):=⟨by rw[h];exact Qj b⟩
theorem sNl {w W:World} {g k:Nat} {o:Obj} (b:Aside0 (w.heap[g]?=some o)) (h:k=W.heap.size) (e:W.heap[g]?=some o:=by(with_reducible repeat(first|refine Qb ?_ _|refine Qd ?_|refine Qc ?_ _|refine Qs ?_ (Aside0.out (by assumption)) _));exact Aside0.out (by assumption)):Aside0 (g≠k):=⟨by rw[h];exact Nat.ne_of_lt (Q8 e)⟩
theorem sNg {w W:World} {g k:Nat} {o:Obj} (b:Aside0 (w.heap[g]?=some o)) (h:k=W.heap.size) (e:W.heap[g]?=some o:=by(with_reducible repeat(first|refine Qb ?_ _|refine Qd ?_|refine Qc ?_ _|refine Qs ?_ (Aside0.out (by assumption)) _));exact Aside0.out (by assumption)):Aside0 (k≠g):=⟨by rw[h];exact Nat.ne_of_gt (Q8 e)⟩
def bN (n m:Nat):Array Bool:=((List.range n).map fun i=>m.testBit i).toArray
end Go.Proofs.YtickbejailcehaaDoor.C
namespace Go.Proofs.YtickbejailcehaaDoor.C
open Go.RowKit Go.Proofs.YtickbejailcehaaDoorW.PrintWords Go.Proofs.YtickbejailcehaaDoorW.PrintLast Go.Proofs.YtickbejailcehaaDoorW.PrintMore
attribute [local go_sem] Xm Xk X0 Xz Xc Xb Xl Xj
set_option linter.unusedVariables false
set_option linter.unusedSimpArgs false
def newelref12_Same.f (k:Nat) (a0_0:Int) (a0_1:Int) (a0_2:Int) (l0_3:List Int) (a1_0:Int) (a1_1:Int) (a1_2:Int) (l1_3:List Int):Option (Bool):=if a0_0=a1_0 then (if a0_1=a1_1 then (if a0_2=a1_2 then ((newelref08_Same.f k l0_3 l1_3).bind fun t403=>(some t403)) else (some false)) else (some false)) else (some false)
theorem newelref12_Same.mono:∀ a0 a1 a2 a3 a4 a5 a6 a7 k,LeO (newelref12_Same.f k a0 a1 a2 a3 a4 a5 a6 a7) (newelref12_Same.f (k+1) a0 a1 a2 a3 a4 a5 a6 a7):=by
 intro a0 a1 a2 a3 a4 a5 a6 a7 k
 unfold newelref12_Same.f
 repeat' first
   |(with_reducible exact newelref08_Same.mono _ _ _)
   |(with_reducible exact LeO.refl _)
   |(with_reducible exact LeO.none _)
   |(with_reducible refine LeO.ite ?_ ?_)
   |(with_reducible refine LeO.bind ?_ (fun _=>?_))
   |exact newelref08_Same.mono _ _ _
   |exact LeO.none _
   |refine LeO.ite ?_ ?_
   |refine LeO.bind ?_ (fun _=>?_)
set_option maxHeartbeats 8000000 in
set_option maxRecDepth 100000 in
theorem newelref12_Same.calls (k:Nat) (a0_0:Int) (a0_1:Int) (a0_2:Int) (A0_3:Option Addr) (c0_3:Nat) (l0_3:List Int) (a1_0:Int) (a1_1:Int) (a1_2:Int) (A1_3:Option Addr) (c1_3:Nat) (l1_3:List Int) (r:Bool) (w:World) (hr0_3:Kd.C (Kd.int .u8) w A0_3 l0_3.length l0_3) (hc0_3:l0_3.length≤c0_3) (hr1_3:Kd.C (Kd.int .u8) w A1_3 l1_3.length l1_3) (hc1_3:l1_3.length≤c1_3) (h:newelref12_Same.f k a0_0 a0_1 a0_2 l0_3 a1_0 a1_1 a1_2 l1_3=some r):
  Calls Tryd.prog 16 #[.agg #[.int .i64 a0_0,.int .i64 a0_1,.int .i64 a0_2,.slice A0_3 l0_3.length c0_3],.agg #[.int .i64 a1_0,.int .i64 a1_1,.int .i64 a1_2,.slice A1_3 l1_3.length c1_3]] w fun e w'=>e = .returned (.bool r)∧Below w.heap.size w w':=by
 have hu26:=Tryd.underlying26
 have HR0_3:=Aside0.mk hr0_3
 have HC0_3:=Aside0.mk hc0_3
 clear hr0_3 hc0_3
 have HR1_3:=Aside0.mk hr1_3
 have HC1_3:=Aside0.mk hc1_3
 clear hr1_3 hc1_3
 have HB:=Aside0.mk (Below.refl w.heap.size w)
 have H:(if a0_0=a1_0 then (if a0_1=a1_1 then (if a0_2=a1_2 then ((newelref08_Same.f k l0_3 l1_3).bind fun t403=>(some t403)) else (some false)) else (some false)) else (some false))=some r:=h
 clear h
 by_cases c3:a0_0=a1_0
 ·rw[if_pos c3] at H
  have c3b0:(a0_0==a1_0)=true:=beq_iff_eq.mpr c3
  have c3b1:(a0_0 != a1_0)=false:=bne_eq_false_iff_eq.mpr c3
  clear c3
  by_cases c4:a0_1=a1_1
  ·rw[if_pos c4] at H
   have c4b0:(a0_1==a1_1)=true:=beq_iff_eq.mpr c4
   have c4b1:(a0_1 != a1_1)=false:=bne_eq_false_iff_eq.mpr c4
   clear c4
   by_cases c5:a0_2=a1_2
   ·rw[if_pos c5] at H
    have c5b0:(a0_2==a1_2)=true:=beq_iff_eq.mpr c5
    have c5b1:(a0_2 != a1_2)=false:=bne_eq_false_iff_eq.mpr c5
    clear c5
    replace H:=Option.bind_eq_some_iff.mp H
    obtain⟨t403,A60,H⟩:=H
    replace H:(some t403)=some r:=H
    have A6:=Aside0.mk A60
    clear A60
    obtain rfl:=Option.some.inj H
    go_enter Tryd.func16,Tryd.ntmps16
    go_wp2_with (first|((with_reducible refine Qz (N:=2) rfl ?_);refine Q7 ?hg (N:=2) ?hd (cs:=#[.int .i64 a0_0,.int .i64 a0_1,.int .i64 a0_2,.slice A0_3 l0_3.length c0_3]) (t:=26) ?hr ?_;(case hd=>rfl);(case hg=>rfl);(case hr=>first|(go_simp;done)|(go_simp;rfl));intro gb401 hg w7 hbox hb;have n0_:=Aside0.mk (Qr (by repeat(first|(with_reducible first|exact HB.out|apply Qe|apply Qa|apply Qf)|exact HB.out)) hb);have n1_:=Aside0.mk (hbox);have n2_:=Aside0.mk ((by rw[hg];exact(Qj (by repeat(first|(with_reducible first|exact HB.out|apply Qe|apply Qa|apply Qf)|exact HB.out))):w.heap.size≤gb401));have n3_:=Aside0.mk ((by rw[hg];exact(Qj (by repeat(first|(with_reducible first|exact HB.out|apply Qe|apply Qa|apply Qf)|exact HB.out))):w.heap.size≤gb401));clear HB;have HB:=n0_;have BK401:=n1_;have GW401:=n2_;have GE401:=n3_;clear n0_ n1_ n2_ n3_;clear hb hbox hg)|((with_reducible refine Qz (N:=3) rfl ?_);refine Q7 ?hg (N:=3) ?hd (cs:=#[.int .i64 a1_0,.int .i64 a1_1,.int .i64 a1_2,.slice A1_3 l1_3.length c1_3]) (t:=26) ?hr ?_;(case hd=>rfl);(case hg=>rfl);(case hr=>first|(go_simp;done)|(go_simp;rfl));intro gb402 hg w8 hbox hb;have n0_:=Aside0.mk (Qp (g:=gb401) (o:=.cells #[.int .i64 a0_0,.int .i64 a0_1,.int .i64 a0_2,.slice A0_3 l0_3.length c0_3] 26 (0,0)) (by(with_reducible repeat first|apply Qb|apply Qd|apply Qc);exact BK401.out) hb);have n1_:=Aside0.mk (Qr (by repeat(first|(with_reducible first|exact HB.out|apply Qe|apply Qa|apply Qf|refine Qg ?_ GE401.out)|exact HB.out)) hb);have n2_:=Aside0.mk (hbox);have n3_:=Aside0.mk ((by rw[hg];exact(Qj (by repeat(first|(with_reducible first|exact HB.out|apply Qe|apply Qa|apply Qf|refine Qg ?_ GE401.out)|exact HB.out))):w.heap.size≤gb402));have n4_:=Aside0.mk ((by rw[hg];exact(Qj (by repeat(first|(with_reducible first|exact HB.out|apply Qe|apply Qa|apply Qf|refine Qg ?_ GE401.out)|exact HB.out))):w.heap.size≤gb402));have n5_:=Aside0.mk ((by rw[hg];exact Nat.ne_of_lt (Q8 (g:=gb401) (o:=.cells #[.int .i64 a0_0,.int .i64 a0_1,.int .i64 a0_2,.slice A0_3 l0_3.length c0_3] 26 (0,0)) (by(with_reducible repeat first|apply Qb|apply Qd|apply Qc);exact BK401.out)):gb401≠gb402));have n6_:=Aside0.mk ((by rw[hg];exact Nat.ne_of_gt (Q8 (g:=gb401) (o:=.cells #[.int .i64 a0_0,.int .i64 a0_1,.int .i64 a0_2,.slice A0_3 l0_3.length c0_3] 26 (0,0)) (by(with_reducible repeat first|apply Qb|apply Qd|apply Qc);exact BK401.out)):gb402≠gb401));clear BK401;clear HB;have BK401:=n0_;have HB:=n1_;have BK402:=n2_;have GW402:=n3_;have GE402:=n4_;have NB401_402:=n5_;have NB402_401:=n6_;clear n0_ n1_ n2_ n3_ n4_ n5_ n6_;clear hb hbox hg;have hnb9:=NB401_402.out;have hnc9:=NB402_401.out;obtain⟨hcz10_0,hcz10_1,hcz10_2,hcz10_3,hfz10_0,hfz10_1,hfz10_2,hfz10_3⟩:=qD4 BK401.out;obtain⟨hcz11_0,hcz11_1,hcz11_2,hcz11_3,hfz11_0,hfz11_1,hfz11_2,hfz11_3⟩:=qD4 BK402.out)|(go_at_call 17;(with_reducible refine(newelref08_Same.calls k _ _ l0_3 _ _ l1_3 t403 _ ?side1 ?side2 ?side3 ?side4 A6.out).mono ?_);(case side1=>repeat(first|exact(Kd.Zb HR0_3.out HB.out)|(with_reducible refine Kd.Zc ?_ _)|(with_reducible refine Kd.Za ?_ _)|(with_reducible refine Kd.Zh ?_)));(case side2=>exact HC0_3.out);(case side3=>repeat(first|exact(Kd.Zb HR1_3.out HB.out)|(with_reducible refine Kd.Zc ?_ _)|(with_reducible refine Kd.Za ?_ _)|(with_reducible refine Kd.Zh ?_)));(case side4=>exact HC1_3.out);rintro e w' ⟨rfl,⟨nd,rfl⟩⟩))
    go_ret
    exact⟨by first|rfl|(simp[Qo,Qn] <;> rfl)|(simp[*,Qo,Qn] <;> rfl),by repeat(first|(with_reducible first|exact HB.out|apply Qe|apply Qa|apply Qf|refine Qg ?_ GE401.out|refine Qg ?_ GE402.out)|exact HB.out)⟩
   ·rw[if_neg c5] at H
    have c5b0:(a0_2==a1_2)=false:=beq_eq_false_iff_ne.mpr c5
    have c5b1:(a0_2 != a1_2)=true:=bne_iff_ne.mpr c5
    obtain rfl:=Option.some.inj H
    go_enter Tryd.func16,Tryd.ntmps16
    go_wp2_with (first|((with_reducible refine Qz (N:=2) rfl ?_);refine Q7 ?hg (N:=2) ?hd (cs:=#[.int .i64 a0_0,.int .i64 a0_1,.int .i64 a0_2,.slice A0_3 l0_3.length c0_3]) (t:=26) ?hr ?_;(case hd=>rfl);(case hg=>rfl);(case hr=>first|(go_simp;done)|(go_simp;rfl));intro gb401 hg w12 hbox hb;have n0_:=Aside0.mk (Qr (by repeat(first|(with_reducible first|exact HB.out|apply Qe|apply Qa|apply Qf)|exact HB.out)) hb);have n1_:=Aside0.mk (hbox);have n2_:=Aside0.mk ((by rw[hg];exact(Qj (by repeat(first|(with_reducible first|exact HB.out|apply Qe|apply Qa|apply Qf)|exact HB.out))):w.heap.size≤gb401));have n3_:=Aside0.mk ((by rw[hg];exact(Qj (by repeat(first|(with_reducible first|exact HB.out|apply Qe|apply Qa|apply Qf)|exact HB.out))):w.heap.size≤gb401));clear HB;have HB:=n0_;have BK401:=n1_;have GW401:=n2_;have GE401:=n3_;clear n0_ n1_ n2_ n3_;clear hb hbox hg)|((with_reducible refine Qz (N:=3) rfl ?_);refine Q7 ?hg (N:=3) ?hd (cs:=#[.int .i64 a1_0,.int .i64 a1_1,.int .i64 a1_2,.slice A1_3 l1_3.length c1_3]) (t:=26) ?hr ?_;(case hd=>rfl);(case hg=>rfl);(case hr=>first|(go_simp;done)|(go_simp;rfl));intro gb402 hg w13 hbox hb;have n0_:=Aside0.mk (Qp (g:=gb401) (o:=.cells #[.int .i64 a0_0,.int .i64 a0_1,.int .i64 a0_2,.slice A0_3 l0_3.length c0_3] 26 (0,0)) (by(with_reducible repeat first|apply Qb|apply Qd|apply Qc);exact BK401.out) hb);have n1_:=Aside0.mk (Qr (by repeat(first|(with_reducible first|exact HB.out|apply Qe|apply Qa|apply Qf|refine Qg ?_ GE401.out)|exact HB.out)) hb);have n2_:=Aside0.mk (hbox);have n3_:=Aside0.mk ((by rw[hg];exact(Qj (by repeat(first|(with_reducible first|exact HB.out|apply Qe|apply Qa|apply Qf|refine Qg ?_ GE401.out)|exact HB.out))):w.heap.size≤gb402));have n4_:=Aside0.mk ((by rw[hg];exact(Qj (by repeat(first|(with_reducible first|exact HB.out|apply Qe|apply Qa|apply Qf|refine Qg ?_ GE401.out)|exact HB.out))):w.heap.size≤gb402));have n5_:=Aside0.mk ((by rw[hg];exact Nat.ne_of_lt (Q8 (g:=gb401) (o:=.cells #[.int .i64 a0_0,.int .i64 a0_1,.int .i64 a0_2,.slice A0_3 l0_3.length c0_3] 26 (0,0)) (by(with_reducible repeat first|apply Qb|apply Qd|apply Qc);exact BK401.out)):gb401≠gb402));have n6_:=Aside0.mk ((by rw[hg];exact Nat.ne_of_gt (Q8 (g:=gb401) (o:=.cells #[.int .i64 a0_0,.int .i64 a0_1,.int .i64 a0_2,.slice A0_3 l0_3.length c0_3] 26 (0,0)) (by(with_reducible repeat first|apply Qb|apply Qd|apply Qc);exact BK401.out)):gb402≠gb401));clear BK401;clear HB;have BK401:=n0_;have HB:=n1_;have BK402:=n2_;have GW402:=n3_;have GE402:=n4_;have NB401_402:=n5_;have NB402_401:=n6_;clear n0_ n1_ n2_ n3_ n4_ n5_ n6_;clear hb hbox hg;have hnb14:=NB401_402.out;have hnc14:=NB402_401.out;obtain⟨hcz15_0,hcz15_1,hcz15_2,hcz15_3,hfz15_0,hfz15_1,hfz15_2,hfz15_3⟩:=qD4 BK401.out;obtain⟨hcz16_0,hcz16_1,hcz16_2,hcz16_3,hfz16_0,hfz16_1,hfz16_2,hfz16_3⟩:=qD4 BK402.out))
    go_ret
    exact⟨by first|rfl|(simp[Qo,Qn] <;> rfl)|(simp[*,Qo,Qn] <;> rfl),by repeat(first|(with_reducible first|exact HB.out|apply Qe|apply Qa|apply Qf|refine Qg ?_ GE401.out|refine Qg ?_ GE402.out)|exact HB.out)⟩
  ·rw[if_neg c4] at H
   have c4b0:(a0_1==a1_1)=false:=beq_eq_false_iff_ne.mpr c4
   have c4b1:(a0_1 != a1_1)=true:=bne_iff_ne.mpr c4
   obtain rfl:=Option.some.inj H
   go_enter Tryd.func16,Tryd.ntmps16
   go_wp2_with (first|((with_reducible refine Qz (N:=2) rfl ?_);refine Q7 ?hg (N:=2) ?hd (cs:=#[.int .i64 a0_0,.int .i64 a0_1,.int .i64 a0_2,.slice A0_3 l0_3.length c0_3]) (t:=26) ?hr ?_;(case hd=>rfl);(case hg=>rfl);(case hr=>first|(go_simp;done)|(go_simp;rfl));intro gb401 hg w17 hbox hb;have n0_:=Aside0.mk (Qr (by repeat(first|(with_reducible first|exact HB.out|apply Qe|apply Qa|apply Qf)|exact HB.out)) hb);have n1_:=Aside0.mk (hbox);have n2_:=Aside0.mk ((by rw[hg];exact(Qj (by repeat(first|(with_reducible first|exact HB.out|apply Qe|apply Qa|apply Qf)|exact HB.out))):w.heap.size≤gb401));have n3_:=Aside0.mk ((by rw[hg];exact(Qj (by repeat(first|(with_reducible first|exact HB.out|apply Qe|apply Qa|apply Qf)|exact HB.out))):w.heap.size≤gb401));clear HB;have HB:=n0_;have BK401:=n1_;have GW401:=n2_;have GE401:=n3_;clear n0_ n1_ n2_ n3_;clear hb hbox hg)|((with_reducible refine Qz (N:=3) rfl ?_);refine Q7 ?hg (N:=3) ?hd (cs:=#[.int .i64 a1_0,.int .i64 a1_1,.int .i64 a1_2,.slice A1_3 l1_3.length c1_3]) (t:=26) ?hr ?_;(case hd=>rfl);(case hg=>rfl);(case hr=>first|(go_simp;done)|(go_simp;rfl));intro gb402 hg w18 hbox hb;have n0_:=Aside0.mk (Qp (g:=gb401) (o:=.cells #[.int .i64 a0_0,.int .i64 a0_1,.int .i64 a0_2,.slice A0_3 l0_3.length c0_3] 26 (0,0)) (by(with_reducible repeat first|apply Qb|apply Qd|apply Qc);exact BK401.out) hb);have n1_:=Aside0.mk (Qr (by repeat(first|(with_reducible first|exact HB.out|apply Qe|apply Qa|apply Qf|refine Qg ?_ GE401.out)|exact HB.out)) hb);have n2_:=Aside0.mk (hbox);have n3_:=Aside0.mk ((by rw[hg];exact(Qj (by repeat(first|(with_reducible first|exact HB.out|apply Qe|apply Qa|apply Qf|refine Qg ?_ GE401.out)|exact HB.out))):w.heap.size≤gb402));have n4_:=Aside0.mk ((by rw[hg];exact(Qj (by repeat(first|(with_reducible first|exact HB.out|apply Qe|apply Qa|apply Qf|refine Qg ?_ GE401.out)|exact HB.out))):w.heap.size≤gb402));have n5_:=Aside0.mk ((by rw[hg];exact Nat.ne_of_lt (Q8 (g:=gb401) (o:=.cells #[.int .i64 a0_0,.int .i64 a0_1,.int .i64 a0_2,.slice A0_3 l0_3.length c0_3] 26 (0,0)) (by(with_reducible repeat first|apply Qb|apply Qd|apply Qc);exact BK401.out)):gb401≠gb402));have n6_:=Aside0.mk ((by rw[hg];exact Nat.ne_of_gt (Q8 (g:=gb401) (o:=.cells #[.int .i64 a0_0,.int .i64 a0_1,.int .i64 a0_2,.slice A0_3 l0_3.length c0_3] 26 (0,0)) (by(with_reducible repeat first|apply Qb|apply Qd|apply Qc);exact BK401.out)):gb402≠gb401));clear BK401;clear HB;have BK401:=n0_;have HB:=n1_;have BK402:=n2_;have GW402:=n3_;have GE402:=n4_;have NB401_402:=n5_;have NB402_401:=n6_;clear n0_ n1_ n2_ n3_ n4_ n5_ n6_;clear hb hbox hg;have hnb19:=NB401_402.out;have hnc19:=NB402_401.out;obtain⟨hcz20_0,hcz20_1,hcz20_2,hcz20_3,hfz20_0,hfz20_1,hfz20_2,hfz20_3⟩:=qD4 BK401.out;obtain⟨hcz21_0,hcz21_1,hcz21_2,hcz21_3,hfz21_0,hfz21_1,hfz21_2,hfz21_3⟩:=qD4 BK402.out))
   go_ret
   exact⟨by first|rfl|(simp[Qo,Qn] <;> rfl)|(simp[*,Qo,Qn] <;> rfl),by repeat(first|(with_reducible first|exact HB.out|apply Qe|apply Qa|apply Qf|refine Qg ?_ GE401.out|refine Qg ?_ GE402.out)|exact HB.out)⟩
 ·rw[if_neg c3] at H
  have c3b0:(a0_0==a1_0)=false:=beq_eq_false_iff_ne.mpr c3
  have c3b1:(a0_0 != a1_0)=true:=bne_iff_ne.mpr c3
  obtain rfl:=Option.some.inj H
  go_enter Tryd.func16,Tryd.ntmps16
  go_wp2_with (first|((with_reducible refine Qz (N:=2) rfl ?_);refine Q7 ?hg (N:=2) ?hd (cs:=#[.int .i64 a0_0,.int .i64 a0_1,.int .i64 a0_2,.slice A0_3 l0_3.length c0_3]) (t:=26) ?hr ?_;(case hd=>rfl);(case hg=>rfl);(case hr=>first|(go_simp;done)|(go_simp;rfl));intro gb401 hg w22 hbox hb;have n0_:=Aside0.mk (Qr (by repeat(first|(with_reducible first|exact HB.out|apply Qe|apply Qa|apply Qf)|exact HB.out)) hb);have n1_:=Aside0.mk (hbox);have n2_:=Aside0.mk ((by rw[hg];exact(Qj (by repeat(first|(with_reducible first|exact HB.out|apply Qe|apply Qa|apply Qf)|exact HB.out))):w.heap.size≤gb401));have n3_:=Aside0.mk ((by rw[hg];exact(Qj (by repeat(first|(with_reducible first|exact HB.out|apply Qe|apply Qa|apply Qf)|exact HB.out))):w.heap.size≤gb401));clear HB;have HB:=n0_;have BK401:=n1_;have GW401:=n2_;have GE401:=n3_;clear n0_ n1_ n2_ n3_;clear hb hbox hg)|((with_reducible refine Qz (N:=3) rfl ?_);refine Q7 ?hg (N:=3) ?hd (cs:=#[.int .i64 a1_0,.int .i64 a1_1,.int .i64 a1_2,.slice A1_3 l1_3.length c1_3]) (t:=26) ?hr ?_;(case hd=>rfl);(case hg=>rfl);(case hr=>first|(go_simp;done)|(go_simp;rfl));intro gb402 hg w23 hbox hb;have n0_:=Aside0.mk (Qp (g:=gb401) (o:=.cells #[.int .i64 a0_0,.int .i64 a0_1,.int .i64 a0_2,.slice A0_3 l0_3.length c0_3] 26 (0,0)) (by(with_reducible repeat first|apply Qb|apply Qd|apply Qc);exact BK401.out) hb);have n1_:=Aside0.mk (Qr (by repeat(first|(with_reducible first|exact HB.out|apply Qe|apply Qa|apply Qf|refine Qg ?_ GE401.out)|exact HB.out)) hb);have n2_:=Aside0.mk (hbox);have n3_:=Aside0.mk ((by rw[hg];exact(Qj (by repeat(first|(with_reducible first|exact HB.out|apply Qe|apply Qa|apply Qf|refine Qg ?_ GE401.out)|exact HB.out))):w.heap.size≤gb402));have n4_:=Aside0.mk ((by rw[hg];exact(Qj (by repeat(first|(with_reducible first|exact HB.out|apply Qe|apply Qa|apply Qf|refine Qg ?_ GE401.out)|exact HB.out))):w.heap.size≤gb402));have n5_:=Aside0.mk ((by rw[hg];exact Nat.ne_of_lt (Q8 (g:=gb401) (o:=.cells #[.int .i64 a0_0,.int .i64 a0_1,.int .i64 a0_2,.slice A0_3 l0_3.length c0_3] 26 (0,0)) (by(with_reducible repeat first|apply Qb|apply Qd|apply Qc);exact BK401.out)):gb401≠gb402));have n6_:=Aside0.mk ((by rw[hg];exact Nat.ne_of_gt (Q8 (g:=gb401) (o:=.cells #[.int .i64 a0_0,.int .i64 a0_1,.int .i64 a0_2,.slice A0_3 l0_3.length c0_3] 26 (0,0)) (by(with_reducible repeat first|apply Qb|apply Qd|apply Qc);exact BK401.out)):gb402≠gb401));clear BK401;clear HB;have BK401:=n0_;have HB:=n1_;have BK402:=n2_;have GW402:=n3_;have GE402:=n4_;have NB401_402:=n5_;have NB402_401:=n6_;clear n0_ n1_ n2_ n3_ n4_ n5_ n6_;clear hb hbox hg;have hnb24:=NB401_402.out;have hnc24:=NB402_401.out;obtain⟨hcz25_0,hcz25_1,hcz25_2,hcz25_3,hfz25_0,hfz25_1,hfz25_2,hfz25_3⟩:=qD4 BK401.out;obtain⟨hcz26_0,hcz26_1,hcz26_2,hcz26_3,hfz26_0,hfz26_1,hfz26_2,hfz26_3⟩:=qD4 BK402.out))
  go_ret
  exact⟨by first|rfl|(simp[Qo,Qn] <;> rfl)|(simp[*,Qo,Qn] <;> rfl),by repeat(first|(with_reducible first|exact HB.out|apply Qe|apply Qa|apply Qf|refine Qg ?_ GE401.out|refine Qg ?_ GE402.out)|exact HB.out)⟩
def bytes_Equal.f (l0:List Int) (l1:List Int):Option (Bool):=some ((strOfNums l0).toList==(strOfNums l1).toList)
set_option maxHeartbeats 8000000 in
set_option maxRecDepth 100000 in
theorem bytes_Equal.calls (A0:Option Addr) (c0:Nat) (l0:List Int) (A1:Option Addr) (c1:Nat) (l1:List Int) (r:Bool) (w:World) (hr0:Kd.C (Kd.int .u8) w A0 l0.length l0) (hc0:l0.length≤c0) (hr1:Kd.C (Kd.int .u8) w A1 l1.length l1) (hc1:l1.length≤c1) (h:bytes_Equal.f l0 l1=some r):
  Calls Tryd.prog 34 #[.slice A0 l0.length c0,.slice A1 l1.length c1] w fun e w'=>e = .returned (.bool r)∧Drawn0 w w':=by
 have HR0:=Aside0.mk hr0
 have HC0:=Aside0.mk hc0
 clear hr0 hc0
 have HR1:=Aside0.mk hr1
 have HC1:=Aside0.mk hc1
 clear hr1 hc1
 have H:(some ((strOfNums l0).toList==(strOfNums l1).toList))=some r:=h
 clear h
 obtain rfl:=Option.some.inj H
 have hcv3:=Kd.Un (P:=Tryd.prog) (A:=A0) (c:=c0) Tryd.underlying22 Tryd.underlying5 Tryd.underlying9 HR0.out
 have hcv4:=Kd.Un (P:=Tryd.prog) (A:=A1) (c:=c1) Tryd.underlying22 Tryd.underlying5 Tryd.underlying9 HR1.out
 go_enter Tryd.func34,Tryd.ntmps34
 go_wp2
 go_ret
 exact⟨qR,by repeat(first|exact Drawn0.refl _|apply Drawn0.step)⟩
def flash_Same.f (a0_0:Int) (a0_1:Int) (a0_2:Int) (l0_3:List Int) (a1_0:Int) (a1_1:Int) (a1_2:Int) (l1_3:List Int):Option (Bool):=if a0_0=a1_0 then (if a0_1=a1_1 then (if a0_2=a1_2 then ((bytes_Equal.f l0_3 l1_3).bind fun t184=>(some t184)) else (some false)) else (some false)) else (some false)
set_option maxHeartbeats 8000000 in
set_option maxRecDepth 100000 in
theorem flash_Same.calls (a0_0:Int) (a0_1:Int) (a0_2:Int) (A0_3:Option Addr) (c0_3:Nat) (l0_3:List Int) (a1_0:Int) (a1_1:Int) (a1_2:Int) (A1_3:Option Addr) (c1_3:Nat) (l1_3:List Int) (r:Bool) (w:World) (hr0_3:Kd.C (Kd.int .u8) w A0_3 l0_3.length l0_3) (hc0_3:l0_3.length≤c0_3) (hr1_3:Kd.C (Kd.int .u8) w A1_3 l1_3.length l1_3) (hc1_3:l1_3.length≤c1_3) (h:flash_Same.f a0_0 a0_1 a0_2 l0_3 a1_0 a1_1 a1_2 l1_3=some r):
  Calls Tryd.prog 20 #[.agg #[.int .i64 a0_0,.int .i64 a0_1,.int .i64 a0_2,.slice A0_3 l0_3.length c0_3],.agg #[.int .i64 a1_0,.int .i64 a1_1,.int .i64 a1_2,.slice A1_3 l1_3.length c1_3]] w fun e w'=>e = .returned (.bool r)∧Below w.heap.size w w':=by
 have hu26:=Tryd.underlying26
 have HR0_3:=Aside0.mk hr0_3
 have HC0_3:=Aside0.mk hc0_3
 clear hr0_3 hc0_3
 have HR1_3:=Aside0.mk hr1_3
 have HC1_3:=Aside0.mk hc1_3
 clear hr1_3 hc1_3
 have HB:=Aside0.mk (Below.refl w.heap.size w)
 have H:(if a0_0=a1_0 then (if a0_1=a1_1 then (if a0_2=a1_2 then ((bytes_Equal.f l0_3 l1_3).bind fun t184=>(some t184)) else (some false)) else (some false)) else (some false))=some r:=h
 clear h
 by_cases c3:a0_0=a1_0
 ·rw[if_pos c3] at H
  have c3b0:(a0_0==a1_0)=true:=beq_iff_eq.mpr c3
  have c3b1:(a0_0 != a1_0)=false:=bne_eq_false_iff_eq.mpr c3
  clear c3
  by_cases c4:a0_1=a1_1
  ·rw[if_pos c4] at H
   have c4b0:(a0_1==a1_1)=true:=beq_iff_eq.mpr c4
   have c4b1:(a0_1 != a1_1)=false:=bne_eq_false_iff_eq.mpr c4
   clear c4
   by_cases c5:a0_2=a1_2
   ·rw[if_pos c5] at H
    have c5b0:(a0_2==a1_2)=true:=beq_iff_eq.mpr c5
    have c5b1:(a0_2 != a1_2)=false:=bne_eq_false_iff_eq.mpr c5
    clear c5
    replace H:=Option.bind_eq_some_iff.mp H
    obtain⟨t184,A60,H⟩:=H
    replace H:(some t184)=some r:=H
    have A6:=Aside0.mk A60
    clear A60
    obtain rfl:=Option.some.inj H
    go_enter Tryd.func20,Tryd.ntmps20
    go_wp2_with (first|((with_reducible refine Qz (N:=2) rfl ?_);refine Q7 ?hg (N:=2) ?hd (cs:=#[.int .i64 a0_0,.int .i64 a0_1,.int .i64 a0_2,.slice A0_3 l0_3.length c0_3]) (t:=26) ?hr ?_;(case hd=>rfl);(case hg=>rfl);(case hr=>first|(go_simp;done)|(go_simp;rfl));intro gb182 hg w7 hbox hb;have n0_:=Aside0.mk (Qr (by repeat(first|(with_reducible first|exact HB.out|apply Qe|apply Qa|apply Qf)|exact HB.out)) hb);have n1_:=Aside0.mk (hbox);have n2_:=Aside0.mk ((by rw[hg];exact(Qj (by repeat(first|(with_reducible first|exact HB.out|apply Qe|apply Qa|apply Qf)|exact HB.out))):w.heap.size≤gb182));have n3_:=Aside0.mk ((by rw[hg];exact(Qj (by repeat(first|(with_reducible first|exact HB.out|apply Qe|apply Qa|apply Qf)|exact HB.out))):w.heap.size≤gb182));clear HB;have HB:=n0_;have BK182:=n1_;have GW182:=n2_;have GE182:=n3_;clear n0_ n1_ n2_ n3_;clear hb hbox hg)|((with_reducible refine Qz (N:=3) rfl ?_);refine Q7 ?hg (N:=3) ?hd (cs:=#[.int .i64 a1_0,.int .i64 a1_1,.int .i64 a1_2,.slice A1_3 l1_3.length c1_3]) (t:=26) ?hr ?_;(case hd=>rfl);(case hg=>rfl);(case hr=>first|(go_simp;done)|(go_simp;rfl));intro gb183 hg w8 hbox hb;have n0_:=Aside0.mk (Qp (g:=gb182) (o:=.cells #[.int .i64 a0_0,.int .i64 a0_1,.int .i64 a0_2,.slice A0_3 l0_3.length c0_3] 26 (0,0)) (by(with_reducible repeat first|apply Qb|apply Qd|apply Qc);exact BK182.out) hb);have n1_:=Aside0.mk (Qr (by repeat(first|(with_reducible first|exact HB.out|apply Qe|apply Qa|apply Qf|refine Qg ?_ GE182.out)|exact HB.out)) hb);have n2_:=Aside0.mk (hbox);have n3_:=Aside0.mk ((by rw[hg];exact(Qj (by repeat(first|(with_reducible first|exact HB.out|apply Qe|apply Qa|apply Qf|refine Qg ?_ GE182.out)|exact HB.out))):w.heap.size≤gb183));have n4_:=Aside0.mk ((by rw[hg];exact(Qj (by repeat(first|(with_reducible first|exact HB.out|apply Qe|apply Qa|apply Qf|refine Qg ?_ GE182.out)|exact HB.out))):w.heap.size≤gb183));have n5_:=Aside0.mk ((by rw[hg];exact Nat.ne_of_lt (Q8 (g:=gb182) (o:=.cells #[.int .i64 a0_0,.int .i64 a0_1,.int .i64 a0_2,.slice A0_3 l0_3.length c0_3] 26 (0,0)) (by(with_reducible repeat first|apply Qb|apply Qd|apply Qc);exact BK182.out)):gb182≠gb183));have n6_:=Aside0.mk ((by rw[hg];exact Nat.ne_of_gt (Q8 (g:=gb182) (o:=.cells #[.int .i64 a0_0,.int .i64 a0_1,.int .i64 a0_2,.slice A0_3 l0_3.length c0_3] 26 (0,0)) (by(with_reducible repeat first|apply Qb|apply Qd|apply Qc);exact BK182.out)):gb183≠gb182));clear BK182;clear HB;have BK182:=n0_;have HB:=n1_;have BK183:=n2_;have GW183:=n3_;have GE183:=n4_;have NB182_183:=n5_;have NB183_182:=n6_;clear n0_ n1_ n2_ n3_ n4_ n5_ n6_;clear hb hbox hg;have hnb9:=NB182_183.out;have hnc9:=NB183_182.out;obtain⟨hcz10_0,hcz10_1,hcz10_2,hcz10_3,hfz10_0,hfz10_1,hfz10_2,hfz10_3⟩:=qD4 BK182.out;obtain⟨hcz11_0,hcz11_1,hcz11_2,hcz11_3,hfz11_0,hfz11_1,hfz11_2,hfz11_3⟩:=qD4 BK183.out)|(go_at_call 34;(with_reducible refine(bytes_Equal.calls _ _ l0_3 _ _ l1_3 t184 _ ?side1 ?side2 ?side3 ?side4 A6.out).mono ?_);(case side1=>repeat(first|exact(Kd.Zb HR0_3.out HB.out)|(with_reducible refine Kd.Zc ?_ _)|(with_reducible refine Kd.Za ?_ _)|(with_reducible refine Kd.Zh ?_)));(case side2=>exact HC0_3.out);(case side3=>repeat(first|exact(Kd.Zb HR1_3.out HB.out)|(with_reducible refine Kd.Zc ?_ _)|(with_reducible refine Kd.Za ?_ _)|(with_reducible refine Kd.Zh ?_)));(case side4=>exact HC1_3.out);rintro e w' ⟨rfl,⟨nd,rfl⟩⟩))
    go_ret
    exact⟨by first|rfl|(simp[Qo,Qn] <;> rfl)|(simp[*,Qo,Qn] <;> rfl),by repeat(first|(with_reducible first|exact HB.out|apply Qe|apply Qa|apply Qf|refine Qg ?_ GE182.out|refine Qg ?_ GE183.out)|exact HB.out)⟩
   ·rw[if_neg c5] at H
    have c5b0:(a0_2==a1_2)=false:=beq_eq_false_iff_ne.mpr c5
    have c5b1:(a0_2 != a1_2)=true:=bne_iff_ne.mpr c5
    obtain rfl:=Option.some.inj H
    go_enter Tryd.func20,Tryd.ntmps20
    go_wp2_with (first|((with_reducible refine Qz (N:=2) rfl ?_);refine Q7 ?hg (N:=2) ?hd (cs:=#[.int .i64 a0_0,.int .i64 a0_1,.int .i64 a0_2,.slice A0_3 l0_3.length c0_3]) (t:=26) ?hr ?_;(case hd=>rfl);(case hg=>rfl);(case hr=>first|(go_simp;done)|(go_simp;rfl));intro gb182 hg w12 hbox hb;have n0_:=Aside0.mk (Qr (by repeat(first|(with_reducible first|exact HB.out|apply Qe|apply Qa|apply Qf)|exact HB.out)) hb);have n1_:=Aside0.mk (hbox);have n2_:=Aside0.mk ((by rw[hg];exact(Qj (by repeat(first|(with_reducible first|exact HB.out|apply Qe|apply Qa|apply Qf)|exact HB.out))):w.heap.size≤gb182));have n3_:=Aside0.mk ((by rw[hg];exact(Qj (by repeat(first|(with_reducible first|exact HB.out|apply Qe|apply Qa|apply Qf)|exact HB.out))):w.heap.size≤gb182));clear HB;have HB:=n0_;have BK182:=n1_;have GW182:=n2_;have GE182:=n3_;clear n0_ n1_ n2_ n3_;clear hb hbox hg)|((with_reducible refine Qz (N:=3) rfl ?_);refine Q7 ?hg (N:=3) ?hd (cs:=#[.int .i64 a1_0,.int .i64 a1_1,.int .i64 a1_2,.slice A1_3 l1_3.length c1_3]) (t:=26) ?hr ?_;(case hd=>rfl);(case hg=>rfl);(case hr=>first|(go_simp;done)|(go_simp;rfl));intro gb183 hg w13 hbox hb;have n0_:=Aside0.mk (Qp (g:=gb182) (o:=.cells #[.int .i64 a0_0,.int .i64 a0_1,.int .i64 a0_2,.slice A0_3 l0_3.length c0_3] 26 (0,0)) (by(with_reducible repeat first|apply Qb|apply Qd|apply Qc);exact BK182.out) hb);have n1_:=Aside0.mk (Qr (by repeat(first|(with_reducible first|exact HB.out|apply Qe|apply Qa|apply Qf|refine Qg ?_ GE182.out)|exact HB.out)) hb);have n2_:=Aside0.mk (hbox);have n3_:=Aside0.mk ((by rw[hg];exact(Qj (by repeat(first|(with_reducible first|exact HB.out|apply Qe|apply Qa|apply Qf|refine Qg ?_ GE182.out)|exact HB.out))):w.heap.size≤gb183));have n4_:=Aside0.mk ((by rw[hg];exact(Qj (by repeat(first|(with_reducible first|exact HB.out|apply Qe|apply Qa|apply Qf|refine Qg ?_ GE182.out)|exact HB.out))):w.heap.size≤gb183));have n5_:=Aside0.mk ((by rw[hg];exact Nat.ne_of_lt (Q8 (g:=gb182) (o:=.cells #[.int .i64 a0_0,.int .i64 a0_1,.int .i64 a0_2,.slice A0_3 l0_3.length c0_3] 26 (0,0)) (by(with_reducible repeat first|apply Qb|apply Qd|apply Qc);exact BK182.out)):gb182≠gb183));have n6_:=Aside0.mk ((by rw[hg];exact Nat.ne_of_gt (Q8 (g:=gb182) (o:=.cells #[.int .i64 a0_0,.int .i64 a0_1,.int .i64 a0_2,.slice A0_3 l0_3.length c0_3] 26 (0,0)) (by(with_reducible repeat first|apply Qb|apply Qd|apply Qc);exact BK182.out)):gb183≠gb182));clear BK182;clear HB;have BK182:=n0_;have HB:=n1_;have BK183:=n2_;have GW183:=n3_;have GE183:=n4_;have NB182_183:=n5_;have NB183_182:=n6_;clear n0_ n1_ n2_ n3_ n4_ n5_ n6_;clear hb hbox hg;have hnb14:=NB182_183.out;have hnc14:=NB183_182.out;obtain⟨hcz15_0,hcz15_1,hcz15_2,hcz15_3,hfz15_0,hfz15_1,hfz15_2,hfz15_3⟩:=qD4 BK182.out;obtain⟨hcz16_0,hcz16_1,hcz16_2,hcz16_3,hfz16_0,hfz16_1,hfz16_2,hfz16_3⟩:=qD4 BK183.out))
    go_ret
    exact⟨by first|rfl|(simp[Qo,Qn] <;> rfl)|(simp[*,Qo,Qn] <;> rfl),by repeat(first|(with_reducible first|exact HB.out|apply Qe|apply Qa|apply Qf|refine Qg ?_ GE182.out|refine Qg ?_ GE183.out)|exact HB.out)⟩
  ·rw[if_neg c4] at H
   have c4b0:(a0_1==a1_1)=false:=beq_eq_false_iff_ne.mpr c4
   have c4b1:(a0_1 != a1_1)=true:=bne_iff_ne.mpr c4
   obtain rfl:=Option.some.inj H
   go_enter Tryd.func20,Tryd.ntmps20
   go_wp2_with (first|((with_reducible refine Qz (N:=2) rfl ?_);refine Q7 ?hg (N:=2) ?hd (cs:=#[.int .i64 a0_0,.int .i64 a0_1,.int .i64 a0_2,.slice A0_3 l0_3.length c0_3]) (t:=26) ?hr ?_;(case hd=>rfl);(case hg=>rfl);(case hr=>first|(go_simp;done)|(go_simp;rfl));intro gb182 hg w17 hbox hb;have n0_:=Aside0.mk (Qr (by repeat(first|(with_reducible first|exact HB.out|apply Qe|apply Qa|apply Qf)|exact HB.out)) hb);have n1_:=Aside0.mk (hbox);have n2_:=Aside0.mk ((by rw[hg];exact(Qj (by repeat(first|(with_reducible first|exact HB.out|apply Qe|apply Qa|apply Qf)|exact HB.out))):w.heap.size≤gb182));have n3_:=Aside0.mk ((by rw[hg];exact(Qj (by repeat(first|(with_reducible first|exact HB.out|apply Qe|apply Qa|apply Qf)|exact HB.out))):w.heap.size≤gb182));clear HB;have HB:=n0_;have BK182:=n1_;have GW182:=n2_;have GE182:=n3_;clear n0_ n1_ n2_ n3_;clear hb hbox hg)|((with_reducible refine Qz (N:=3) rfl ?_);refine Q7 ?hg (N:=3) ?hd (cs:=#[.int .i64 a1_0,.int .i64 a1_1,.int .i64 a1_2,.slice A1_3 l1_3.length c1_3]) (t:=26) ?hr ?_;(case hd=>rfl);(case hg=>rfl);(case hr=>first|(go_simp;done)|(go_simp;rfl));intro gb183 hg w18 hbox hb;have n0_:=Aside0.mk (Qp (g:=gb182) (o:=.cells #[.int .i64 a0_0,.int .i64 a0_1,.int .i64 a0_2,.slice A0_3 l0_3.length c0_3] 26 (0,0)) (by(with_reducible repeat first|apply Qb|apply Qd|apply Qc);exact BK182.out) hb);have n1_:=Aside0.mk (Qr (by repeat(first|(with_reducible first|exact HB.out|apply Qe|apply Qa|apply Qf|refine Qg ?_ GE182.out)|exact HB.out)) hb);have n2_:=Aside0.mk (hbox);have n3_:=Aside0.mk ((by rw[hg];exact(Qj (by repeat(first|(with_reducible first|exact HB.out|apply Qe|apply Qa|apply Qf|refine Qg ?_ GE182.out)|exact HB.out))):w.heap.size≤gb183));have n4_:=Aside0.mk ((by rw[hg];exact(Qj (by repeat(first|(with_reducible first|exact HB.out|apply Qe|apply Qa|apply Qf|refine Qg ?_ GE182.out)|exact HB.out))):w.heap.size≤gb183));have n5_:=Aside0.mk ((by rw[hg];exact Nat.ne_of_lt (Q8 (g:=gb182) (o:=.cells #[.int .i64 a0_0,.int .i64 a0_1,.int .i64 a0_2,.slice A0_3 l0_3.length c0_3] 26 (0,0)) (by(with_reducible repeat first|apply Qb|apply Qd|apply Qc);exact BK182.out)):gb182≠gb183));have n6_:=Aside0.mk ((by rw[hg];exact Nat.ne_of_gt (Q8 (g:=gb182) (o:=.cells #[.int .i64 a0_0,.int .i64 a0_1,.int .i64 a0_2,.slice A0_3 l0_3.length c0_3] 26 (0,0)) (by(with_reducible repeat first|apply Qb|apply Qd|apply Qc);exact BK182.out)):gb183≠gb182));clear BK182;clear HB;have BK182:=n0_;have HB:=n1_;have BK183:=n2_;have GW183:=n3_;have GE183:=n4_;have NB182_183:=n5_;have NB183_182:=n6_;clear n0_ n1_ n2_ n3_ n4_ n5_ n6_;clear hb hbox hg;have hnb19:=NB182_183.out;have hnc19:=NB183_182.out;obtain⟨hcz20_0,hcz20_1,hcz20_2,hcz20_3,hfz20_0,hfz20_1,hfz20_2,hfz20_3⟩:=qD4 BK182.out;obtain⟨hcz21_0,hcz21_1,hcz21_2,hcz21_3,hfz21_0,hfz21_1,hfz21_2,hfz21_3⟩:=qD4 BK183.out))
   go_ret
   exact⟨by first|rfl|(simp[Qo,Qn] <;> rfl)|(simp[*,Qo,Qn] <;> rfl),by repeat(first|(with_reducible first|exact HB.out|apply Qe|apply Qa|apply Qf|refine Qg ?_ GE182.out|refine Qg ?_ GE183.out)|exact HB.out)⟩
 ·rw[if_neg c3] at H
  have c3b0:(a0_0==a1_0)=false:=beq_eq_false_iff_ne.mpr c3
  have c3b1:(a0_0 != a1_0)=true:=bne_iff_ne.mpr c3
  obtain rfl:=Option.some.inj H
  go_enter Tryd.func20,Tryd.ntmps20
  go_wp2_with (first|((with_reducible refine Qz (N:=2) rfl ?_);refine Q7 ?hg (N:=2) ?hd (cs:=#[.int .i64 a0_0,.int .i64 a0_1,.int .i64 a0_2,.slice A0_3 l0_3.length c0_3]) (t:=26) ?hr ?_;(case hd=>rfl);(case hg=>rfl);(case hr=>first|(go_simp;done)|(go_simp;rfl));intro gb182 hg w22 hbox hb;have n0_:=Aside0.mk (Qr (by repeat(first|(with_reducible first|exact HB.out|apply Qe|apply Qa|apply Qf)|exact HB.out)) hb);have n1_:=Aside0.mk (hbox);have n2_:=Aside0.mk ((by rw[hg];exact(Qj (by repeat(first|(with_reducible first|exact HB.out|apply Qe|apply Qa|apply Qf)|exact HB.out))):w.heap.size≤gb182));have n3_:=Aside0.mk ((by rw[hg];exact(Qj (by repeat(first|(with_reducible first|exact HB.out|apply Qe|apply Qa|apply Qf)|exact HB.out))):w.heap.size≤gb182));clear HB;have HB:=n0_;have BK182:=n1_;have GW182:=n2_;have GE182:=n3_;clear n0_ n1_ n2_ n3_;clear hb hbox hg)|((with_reducible refine Qz (N:=3) rfl ?_);refine Q7 ?hg (N:=3) ?hd (cs:=#[.int .i64 a1_0,.int .i64 a1_1,.int .i64 a1_2,.slice A1_3 l1_3.length c1_3]) (t:=26) ?hr ?_;(case hd=>rfl);(case hg=>rfl);(case hr=>first|(go_simp;done)|(go_simp;rfl));intro gb183 hg w23 hbox hb;have n0_:=Aside0.mk (Qp (g:=gb182) (o:=.cells #[.int .i64 a0_0,.int .i64 a0_1,.int .i64 a0_2,.slice A0_3 l0_3.length c0_3] 26 (0,0)) (by(with_reducible repeat first|apply Qb|apply Qd|apply Qc);exact BK182.out) hb);have n1_:=Aside0.mk (Qr (by repeat(first|(with_reducible first|exact HB.out|apply Qe|apply Qa|apply Qf|refine Qg ?_ GE182.out)|exact HB.out)) hb);have n2_:=Aside0.mk (hbox);have n3_:=Aside0.mk ((by rw[hg];exact(Qj (by repeat(first|(with_reducible first|exact HB.out|apply Qe|apply Qa|apply Qf|refine Qg ?_ GE182.out)|exact HB.out))):w.heap.size≤gb183));have n4_:=Aside0.mk ((by rw[hg];exact(Qj (by repeat(first|(with_reducible first|exact HB.out|apply Qe|apply Qa|apply Qf|refine Qg ?_ GE182.out)|exact HB.out))):w.heap.size≤gb183));have n5_:=Aside0.mk ((by rw[hg];exact Nat.ne_of_lt (Q8 (g:=gb182) (o:=.cells #[.int .i64 a0_0,.int .i64 a0_1,.int .i64 a0_2,.slice A0_3 l0_3.length c0_3] 26 (0,0)) (by(with_reducible repeat first|apply Qb|apply Qd|apply Qc);exact BK182.out)):gb182≠gb183));have n6_:=Aside0.mk ((by rw[hg];exact Nat.ne_of_gt (Q8 (g:=gb182) (o:=.cells #[.int .i64 a0_0,.int .i64 a0_1,.int .i64 a0_2,.slice A0_3 l0_3.length c0_3] 26 (0,0)) (by(with_reducible repeat first|apply Qb|apply Qd|apply Qc);exact BK182.out)):gb183≠gb182));clear BK182;clear HB;have BK182:=n0_;have HB:=n1_;have BK183:=n2_;have GW183:=n3_;have GE183:=n4_;have NB182_183:=n5_;have NB183_182:=n6_;clear n0_ n1_ n2_ n3_ n4_ n5_ n6_;clear hb hbox hg;have hnb24:=NB182_183.out;have hnc24:=NB183_182.out;obtain⟨hcz25_0,hcz25_1,hcz25_2,hcz25_3,hfz25_0,hfz25_1,hfz25_2,hfz25_3⟩:=qD4 BK182.out;obtain⟨hcz26_0,hcz26_1,hcz26_2,hcz26_3,hfz26_0,hfz26_1,hfz26_2,hfz26_3⟩:=qD4 BK183.out))
  go_ret
  exact⟨by first|rfl|(simp[Qo,Qn] <;> rfl)|(simp[*,Qo,Qn] <;> rfl),by repeat(first|(with_reducible first|exact HB.out|apply Qe|apply Qa|apply Qf|refine Qg ?_ GE182.out|refine Qg ?_ GE183.out)|exact HB.out)⟩
def newelref12_May.f (a0_0:Int) (a0_1:Int) (a0_2:Int) (l0_3:List Int):Option (Bool):=if a0_0≥1 then (if a0_0≤1099511627776 then (if a0_2≥0 then (if a0_2≤5 then (some (decide ((l0_3.length:Int)≤4096))) else (some false)) else (some false)) else (some false)) else (some false)
set_option maxHeartbeats 8000000 in
set_option maxRecDepth 100000 in
theorem newelref12_May.calls (a0_0:Int) (a0_1:Int) (a0_2:Int) (A0_3:Option Addr) (c0_3:Nat) (l0_3:List Int) (r:Bool) (w:World) (hr0_3:Kd.C (Kd.int .u8) w A0_3 l0_3.length l0_3) (hc0_3:l0_3.length≤c0_3) (h:newelref12_May.f a0_0 a0_1 a0_2 l0_3=some r):
  Calls Tryd.prog 21 #[.agg #[.int .i64 a0_0,.int .i64 a0_1,.int .i64 a0_2,.slice A0_3 l0_3.length c0_3]] w fun e w'=>e = .returned (.bool r)∧Below w.heap.size w w':=by
 have hu26:=Tryd.underlying26
 have HR0_3:=Aside0.mk hr0_3
 have HC0_3:=Aside0.mk hc0_3
 clear hr0_3 hc0_3
 have HB:=Aside0.mk (Below.refl w.heap.size w)
 have H:(if a0_0≥1 then (if a0_0≤1099511627776 then (if a0_2≥0 then (if a0_2≤5 then (some (decide ((l0_3.length:Int)≤4096))) else (some false)) else (some false)) else (some false)) else (some false))=some r:=h
 clear h
 by_cases c2:a0_0≥1
 ·rw[if_pos c2] at H
  have c2b0:decide (1≤a0_0)=true:=decide_eq_true c2
  clear c2
  by_cases c3:a0_0≤1099511627776
  ·rw[if_pos c3] at H
   have c3b0:decide (a0_0≤1099511627776)=true:=decide_eq_true c3
   clear c3
   by_cases c4:a0_2≥0
   ·rw[if_pos c4] at H
    have c4b0:decide (0≤a0_2)=true:=decide_eq_true c4
    clear c4
    by_cases c5:a0_2≤5
    ·rw[if_pos c5] at H
     have c5b0:decide (a0_2≤5)=true:=decide_eq_true c5
     clear c5
     obtain rfl:=Option.some.inj H
     go_enter Tryd.func21,Tryd.ntmps21
     go_wp2_with (first|((with_reducible refine Qz (N:=1) rfl ?_);(try(refine Zw (by rfl) ?_;dsimp only));refine Q7 ?hg (N:=1) ?hd (cs:=#[.int .i64 a0_0,.int .i64 a0_1,.int .i64 a0_2,.slice A0_3 l0_3.length c0_3]) (t:=26) ?hr ?_;(case hd=>rfl);(case hg=>rfl);(case hr=>first|(go_simp;done)|(go_simp;rfl));intro gb241 hg w6 hbox hb;have n0_:=Aside0.mk (Qr (by repeat(first|(with_reducible first|exact HB.out|apply Qe|apply Qa|apply Qf)|exact HB.out)) hb);have n1_:=Aside0.mk (hbox);have n2_:=Aside0.mk ((by rw[hg];exact(Qj (by repeat(first|(with_reducible first|exact HB.out|apply Qe|apply Qa|apply Qf)|exact HB.out))):w.heap.size≤gb241));have n3_:=Aside0.mk ((by rw[hg];exact(Qj (by repeat(first|(with_reducible first|exact HB.out|apply Qe|apply Qa|apply Qf)|exact HB.out))):w.heap.size≤gb241));clear HB;have HB:=n0_;have BK241:=n1_;have GW241:=n2_;have GE241:=n3_;clear n0_ n1_ n2_ n3_;clear hb hbox hg;obtain⟨hcz7_0,hcz7_1,hcz7_2,hcz7_3,hfz7_0,hfz7_1,hfz7_2,hfz7_3⟩:=qD4 BK241.out))
     go_ret
     exact⟨by first|rfl|(simp[Qo,Qn] <;> rfl)|(simp[*,Qo,Qn] <;> rfl),by repeat(first|(with_reducible first|exact HB.out|apply Qe|apply Qa|apply Qf|refine Qg ?_ GE241.out)|exact HB.out)⟩
    ·rw[if_neg c5] at H
     have c5b0:decide (a0_2≤5)=false:=decide_eq_false c5
     clear c5
     obtain rfl:=Option.some.inj H
     go_enter Tryd.func21,Tryd.ntmps21
     go_wp2_with (first|((with_reducible refine Qz (N:=1) rfl ?_);(try(refine Zw (by rfl) ?_;dsimp only));refine Q7 ?hg (N:=1) ?hd (cs:=#[.int .i64 a0_0,.int .i64 a0_1,.int .i64 a0_2,.slice A0_3 l0_3.length c0_3]) (t:=26) ?hr ?_;(case hd=>rfl);(case hg=>rfl);(case hr=>first|(go_simp;done)|(go_simp;rfl));intro gb241 hg w8 hbox hb;have n0_:=Aside0.mk (Qr (by repeat(first|(with_reducible first|exact HB.out|apply Qe|apply Qa|apply Qf)|exact HB.out)) hb);have n1_:=Aside0.mk (hbox);have n2_:=Aside0.mk ((by rw[hg];exact(Qj (by repeat(first|(with_reducible first|exact HB.out|apply Qe|apply Qa|apply Qf)|exact HB.out))):w.heap.size≤gb241));have n3_:=Aside0.mk ((by rw[hg];exact(Qj (by repeat(first|(with_reducible first|exact HB.out|apply Qe|apply Qa|apply Qf)|exact HB.out))):w.heap.size≤gb241));clear HB;have HB:=n0_;have BK241:=n1_;have GW241:=n2_;have GE241:=n3_;clear n0_ n1_ n2_ n3_;clear hb hbox hg;obtain⟨hcz9_0,hcz9_1,hcz9_2,hcz9_3,hfz9_0,hfz9_1,hfz9_2,hfz9_3⟩:=qD4 BK241.out))
     go_ret
     exact⟨by first|rfl|(simp[Qo,Qn] <;> rfl)|(simp[*,Qo,Qn] <;> rfl),by repeat(first|(with_reducible first|exact HB.out|apply Qe|apply Qa|apply Qf|refine Qg ?_ GE241.out)|exact HB.out)⟩
   ·rw[if_neg c4] at H
    have c4b0:decide (0≤a0_2)=false:=decide_eq_false c4
    clear c4
    obtain rfl:=Option.some.inj H
    go_enter Tryd.func21,Tryd.ntmps21
    go_wp2_with (first|((with_reducible refine Qz (N:=1) rfl ?_);(try(refine Zw (by rfl) ?_;dsimp only));refine Q7 ?hg (N:=1) ?hd (cs:=#[.int .i64 a0_0,.int .i64 a0_1,.int .i64 a0_2,.slice A0_3 l0_3.length c0_3]) (t:=26) ?hr ?_;(case hd=>rfl);(case hg=>rfl);(case hr=>first|(go_simp;done)|(go_simp;rfl));intro gb241 hg w10 hbox hb;have n0_:=Aside0.mk (Qr (by repeat(first|(with_reducible first|exact HB.out|apply Qe|apply Qa|apply Qf)|exact HB.out)) hb);have n1_:=Aside0.mk (hbox);have n2_:=Aside0.mk ((by rw[hg];exact(Qj (by repeat(first|(with_reducible first|exact HB.out|apply Qe|apply Qa|apply Qf)|exact HB.out))):w.heap.size≤gb241));have n3_:=Aside0.mk ((by rw[hg];exact(Qj (by repeat(first|(with_reducible first|exact HB.out|apply Qe|apply Qa|apply Qf)|exact HB.out))):w.heap.size≤gb241));clear HB;have HB:=n0_;have BK241:=n1_;have GW241:=n2_;have GE241:=n3_;clear n0_ n1_ n2_ n3_;clear hb hbox hg;obtain⟨hcz11_0,hcz11_1,hcz11_2,hcz11_3,hfz11_0,hfz11_1,hfz11_2,hfz11_3⟩:=qD4 BK241.out))
    go_ret
    exact⟨by first|rfl|(simp[Qo,Qn] <;> rfl)|(simp[*,Qo,Qn] <;> rfl),by repeat(first|(with_reducible first|exact HB.out|apply Qe|apply Qa|apply Qf|refine Qg ?_ GE241.out)|exact HB.out)⟩
  ·rw[if_neg c3] at H
   have c3b0:decide (a0_0≤1099511627776)=false:=decide_eq_false c3
   clear c3
   obtain rfl:=Option.some.inj H
   go_enter Tryd.func21,Tryd.ntmps21
   go_wp2_with (first|((with_reducible refine Qz (N:=1) rfl ?_);(try(refine Zw (by rfl) ?_;dsimp only));refine Q7 ?hg (N:=1) ?hd (cs:=#[.int .i64 a0_0,.int .i64 a0_1,.int .i64 a0_2,.slice A0_3 l0_3.length c0_3]) (t:=26) ?hr ?_;(case hd=>rfl);(case hg=>rfl);(case hr=>first|(go_simp;done)|(go_simp;rfl));intro gb241 hg w12 hbox hb;have n0_:=Aside0.mk (Qr (by repeat(first|(with_reducible first|exact HB.out|apply Qe|apply Qa|apply Qf)|exact HB.out)) hb);have n1_:=Aside0.mk (hbox);have n2_:=Aside0.mk ((by rw[hg];exact(Qj (by repeat(first|(with_reducible first|exact HB.out|apply Qe|apply Qa|apply Qf)|exact HB.out))):w.heap.size≤gb241));have n3_:=Aside0.mk ((by rw[hg];exact(Qj (by repeat(first|(with_reducible first|exact HB.out|apply Qe|apply Qa|apply Qf)|exact HB.out))):w.heap.size≤gb241));clear HB;have HB:=n0_;have BK241:=n1_;have GW241:=n2_;have GE241:=n3_;clear n0_ n1_ n2_ n3_;clear hb hbox hg;obtain⟨hcz13_0,hcz13_1,hcz13_2,hcz13_3,hfz13_0,hfz13_1,hfz13_2,hfz13_3⟩:=qD4 BK241.out))
   go_ret
   exact⟨by first|rfl|(simp[Qo,Qn] <;> rfl)|(simp[*,Qo,Qn] <;> rfl),by repeat(first|(with_reducible first|exact HB.out|apply Qe|apply Qa|apply Qf|refine Qg ?_ GE241.out)|exact HB.out)⟩
 ·rw[if_neg c2] at H
  have c2b0:decide (1≤a0_0)=false:=decide_eq_false c2
  clear c2
  obtain rfl:=Option.some.inj H
  go_enter Tryd.func21,Tryd.ntmps21
  go_wp2_with (first|((with_reducible refine Qz (N:=1) rfl ?_);(try(refine Zw (by rfl) ?_;dsimp only));refine Q7 ?hg (N:=1) ?hd (cs:=#[.int .i64 a0_0,.int .i64 a0_1,.int .i64 a0_2,.slice A0_3 l0_3.length c0_3]) (t:=26) ?hr ?_;(case hd=>rfl);(case hg=>rfl);(case hr=>first|(go_simp;done)|(go_simp;rfl));intro gb241 hg w14 hbox hb;have n0_:=Aside0.mk (Qr (by repeat(first|(with_reducible first|exact HB.out|apply Qe|apply Qa|apply Qf)|exact HB.out)) hb);have n1_:=Aside0.mk (hbox);have n2_:=Aside0.mk ((by rw[hg];exact(Qj (by repeat(first|(with_reducible first|exact HB.out|apply Qe|apply Qa|apply Qf)|exact HB.out))):w.heap.size≤gb241));have n3_:=Aside0.mk ((by rw[hg];exact(Qj (by repeat(first|(with_reducible first|exact HB.out|apply Qe|apply Qa|apply Qf)|exact HB.out))):w.heap.size≤gb241));clear HB;have HB:=n0_;have BK241:=n1_;have GW241:=n2_;have GE241:=n3_;clear n0_ n1_ n2_ n3_;clear hb hbox hg;obtain⟨hcz15_0,hcz15_1,hcz15_2,hcz15_3,hfz15_0,hfz15_1,hfz15_2,hfz15_3⟩:=qD4 BK241.out))
  go_ret
  exact⟨by first|rfl|(simp[Qo,Qn] <;> rfl)|(simp[*,Qo,Qn] <;> rfl),by repeat(first|(with_reducible first|exact HB.out|apply Qe|apply Qa|apply Qf|refine Qg ?_ GE241.out)|exact HB.out)⟩
def newellaw12_Own.f (l0_0:List Int) (l0_1:List Int):Option (List Int×List Int):=(some (([]:List Int):List Int)).bind fun y229=>(if y229.length+l0_0.length<140737488355328 then ((some (([]:List Int):List Int)).bind fun y235=>(if y235.length+l0_1.length<140737488355328 then (some ((y229++l0_0),(y235++l0_1))) else (none))) else (none))
def newellaw12_Own.T1:Bool×List (List Nat×List Nat):=(true,[([],[]),([],[]),([1],[1]),([0,2],[0,2]),([],[]),([],[]),([5],[5]),([4,6,3],[4,6]),([3,7],[3,7]),([8,7,0,1,2,3,4,5,6,7,8],[8])])
def newellaw12_Own.B1:List Nat:=[0,0,2,7,0,0,32,127,255,511]
theorem newellaw12_Own.tab1:rtab .any (opsOf Tryd.f12 1)=newellaw12_Own.T1:=by kernel_rfl
theorem newellaw12_Own.bits1:Yb newellaw12_Own.T1.2 newellaw12_Own.B1=true:=by kernel_rfl
set_option maxHeartbeats 8000000 in
set_option maxRecDepth 100000 in
theorem newellaw12_Own.calls (A0_0:Option Addr) (c0_0:Nat) (l0_0:List Int) (A0_1:Option Addr) (c0_1:Nat) (l0_1:List Int) (r1:List Int) (r2:List Int) (w:World) (hr0_0:Kd.C (Kd.int .u8) w A0_0 l0_0.length l0_0) (hc0_0:l0_0.length≤c0_0) (hr0_1:Kd.C (Kd.int .u8) w A0_1 l0_1.length l0_1) (hc0_1:l0_1.length≤c0_1) (h:newellaw12_Own.f l0_0 l0_1=some (r1,r2)):
  Calls Tryd.prog 12 #[.agg #[.slice A0_0 l0_0.length c0_0,.slice A0_1 l0_1.length c0_1]] w fun e w'=>∃ v0_ v1_:Value,e = .returned (.agg #[v0_,v1_])∧Kd.R (Kd.int .u8) 5 w' w.heap.size (fun k_=>some k_≠(v1_:Value).ownBlock) v0_ r1∧Kd.R (Kd.int .u8) 5 w' w.heap.size (fun k_=>some k_≠(v0_:Value).ownBlock) v1_ r2∧Below w.heap.size w w':=by
 have hu24:=Tryd.underlying24
 have HR0_0:=Aside0.mk hr0_0
 have HC0_0:=Aside0.mk hc0_0
 clear hr0_0 hc0_0
 have HR0_1:=Aside0.mk hr0_1
 have HC0_1:=Aside0.mk hc0_1
 clear hr0_1 hc0_1
 have HB:=Aside0.mk (Below.refl w.heap.size w)
 have H:((some (([]:List Int):List Int)).bind fun y229=>(if y229.length+l0_0.length<140737488355328 then ((some (([]:List Int):List Int)).bind fun y235=>(if y235.length+l0_1.length<140737488355328 then (some ((y229++l0_0),(y235++l0_1))) else (none))) else (none)))=some (r1,r2):=h
 clear h
 obtain⟨y229,hy229⟩:∃ y_:List Int,y_=(([]:List Int)):=⟨_,rfl⟩
 replace H:(if y229.length+l0_0.length<140737488355328 then ((some (([]:List Int):List Int)).bind fun y235=>(if y235.length+l0_1.length<140737488355328 then (some ((y229++l0_0),(y235++l0_1))) else (none))) else (none))=some (r1,r2):=by first|(rw[hy229];with_reducible exact H)|(have H2_:=(Option.bind_some _ _).symm.trans H;rw[hy229];with_reducible exact H2_)|(have H2_:=(Option.bind_some _ _).symm.trans H;with_reducible exact H2_)|with_reducible exact H|(rw[hy229];exact H)|exact H
 have Ny229:=Aside0.mk hy229
 clear hy229
 by_cases c2:y229.length+l0_0.length<140737488355328
 ·rw[if_pos c2] at H
  have LMc2:=Aside0.mk c2
  clear c2
  obtain⟨y232,hy232⟩:∃ y_:List Int,y_=(y229++l0_0):=⟨_,rfl⟩
  replace H:((some (([]:List Int):List Int)).bind fun y235=>(if y235.length+l0_1.length<140737488355328 then (some (y232,(y235++l0_1))) else (none)))=some (r1,r2):=by first|(rw[hy232];with_reducible exact H)|(have H2_:=(Option.bind_some _ _).symm.trans H;rw[hy232];with_reducible exact H2_)|(have H2_:=(Option.bind_some _ _).symm.trans H;with_reducible exact H2_)|with_reducible exact H|(rw[hy232];exact H)|exact H
  have Ny232:=Aside0.mk hy232
  clear hy232
  obtain⟨y235,hy235⟩:∃ y_:List Int,y_=(([]:List Int)):=⟨_,rfl⟩
  replace H:(if y235.length+l0_1.length<140737488355328 then (some (y232,(y235++l0_1))) else (none))=some (r1,r2):=by first|(rw[hy235];with_reducible exact H)|(have H2_:=(Option.bind_some _ _).symm.trans H;rw[hy235];with_reducible exact H2_)|(have H2_:=(Option.bind_some _ _).symm.trans H;with_reducible exact H2_)|with_reducible exact H|(rw[hy235];exact H)|exact H
  have Ny235:=Aside0.mk hy235
  clear hy235
  by_cases c3:y235.length+l0_1.length<140737488355328
  ·rw[if_pos c3] at H
   have LMc3:=Aside0.mk c3
   clear c3
   obtain⟨y238,hy238⟩:∃ y_:List Int,y_=(y235++l0_1):=⟨_,rfl⟩
   replace H:(some (y232,y238))=some (r1,r2):=by first|(rw[hy238];with_reducible exact H)|(have H2_:=(Option.bind_some _ _).symm.trans H;rw[hy238];with_reducible exact H2_)|(have H2_:=(Option.bind_some _ _).symm.trans H;with_reducible exact H2_)|with_reducible exact H|(rw[hy238];exact H)|exact H
   have Ny238:=Aside0.mk hy238
   clear hy238
   simp only[Option.some.injEq,Prod.mk.injEq] at H
   obtain⟨rfl,rfl⟩:=H
   go_enter Tryd.func12,Tryd.ntmps12
   try go_wp2_with (first|((with_reducible refine Qz (N:=1) rfl ?_);refine Q7 ?hg (N:=1) ?hd (cs:=#[.slice A0_0 l0_0.length c0_0,.slice A0_1 l0_1.length c0_1]) (t:=24) ?hr ?_;(case hd=>rfl);(case hg=>rfl);(case hr=>first|(go_simp;done)|(go_simp;rfl));intro gb227 hg w4 hbox hb;have n0_:=Aside0.mk (Qr (by repeat(first|(with_reducible first|exact HB.out|apply Qe|apply Qa|apply Qf)|exact HB.out)) hb);have n1_:=Aside0.mk (hbox);have n2_:=Aside0.mk ((by rw[hg];exact(Qj (by repeat(first|(with_reducible first|exact HB.out|apply Qe|apply Qa|apply Qf)|exact HB.out))):w.heap.size≤gb227));have n3_:=Aside0.mk ((by rw[hg];exact(Qj (by repeat(first|(with_reducible first|exact HB.out|apply Qe|apply Qa|apply Qf)|exact HB.out))):w.heap.size≤gb227));clear HB;have HB:=n0_;have BK227:=n1_;have GW227:=n2_;have GE227:=n3_;clear n0_ n1_ n2_ n3_;clear hb hbox hg)|((with_reducible refine Qz (N:=2) rfl ?_);refine Q7 ?hg (N:=2) ?hd (cs:=#[.slice none 0 0,.slice none 0 0]) (t:=24) ?hr ?_;(case hd=>rfl);(case hg=>rfl);(case hr=>first|(go_simp;done)|(go_simp;rfl));intro gb228 hg w5 hbox hb;have n0_:=Aside0.mk (Qp (g:=gb227) (o:=.cells #[.slice A0_0 l0_0.length c0_0,.slice A0_1 l0_1.length c0_1] 24 (0,0)) (by(with_reducible repeat first|apply Qb|apply Qd|apply Qc);exact BK227.out) hb);have n1_:=Aside0.mk (Qr (by repeat(first|(with_reducible first|exact HB.out|apply Qe|apply Qa|apply Qf|refine Qg ?_ GE227.out)|exact HB.out)) hb);have n2_:=Aside0.mk (hbox);have n3_:=Aside0.mk ((by rw[hg];exact(Qj (by repeat(first|(with_reducible first|exact HB.out|apply Qe|apply Qa|apply Qf|refine Qg ?_ GE227.out)|exact HB.out))):w.heap.size≤gb228));have n4_:=Aside0.mk ((by rw[hg];exact(Qj (by repeat(first|(with_reducible first|exact HB.out|apply Qe|apply Qa|apply Qf|refine Qg ?_ GE227.out)|exact HB.out))):w.heap.size≤gb228));have n5_:=Aside0.mk ((by rw[hg];exact Nat.ne_of_lt (Q8 (g:=gb227) (o:=.cells #[.slice A0_0 l0_0.length c0_0,.slice A0_1 l0_1.length c0_1] 24 (0,0)) (by(with_reducible repeat first|apply Qb|apply Qd|apply Qc);exact BK227.out)):gb227≠gb228));have n6_:=Aside0.mk ((by rw[hg];exact Nat.ne_of_gt (Q8 (g:=gb227) (o:=.cells #[.slice A0_0 l0_0.length c0_0,.slice A0_1 l0_1.length c0_1] 24 (0,0)) (by(with_reducible repeat first|apply Qb|apply Qd|apply Qc);exact BK227.out)):gb228≠gb227));clear BK227;clear HB;have BK227:=n0_;have HB:=n1_;have BK228:=n2_;have GW228:=n3_;have GE228:=n4_;have NB227_228:=n5_;have NB228_227:=n6_;clear n0_ n1_ n2_ n3_ n4_ n5_ n6_;clear hb hbox hg))
   have n0_:=Aside0.mk (Qd BK227.out)
   have n1_:=Aside0.mk (Qd BK228.out)
   have n2_:=Aside0.mk (Qf HB.out)
   clear BK227
   clear BK228
   clear HB
   have BK227:=n0_
   have BK228:=n1_
   have HB:=n2_
   clear n0_ n1_ n2_
   refine Yp (n:=10) (S:=fun w'=>w'.cell? ⟨gb227,0,none⟩=some (.slice A0_0 l0_0.length c0_0)∧w'.cell? ⟨gb227,1,none⟩=some (.slice A0_1 l0_1.length c0_1)) (ds:=[]) #[false,false,false,false,false,false,false,false,false,false] kr rfl rfl ⟨(Q3 BK227.out 0).trans rfl,(Q3 BK227.out 1).trans rfl⟩ (fun hHeld=>?_);refine Xh newellaw12_Own.tab1 newellaw12_Own.bits1 (fun HT_ HW_=>?_)
   generalize w5.drew=w6 at BK227 BK228 HB hHeld ⊢
   refine qP 1 (some 4) (qB 10 2) HT_ ?_
   refine qP 5 (some 8) (qB 10 34) HT_ ?_
   refine qT 2 (some 5) (qB 10 38) HT_ HW_ hHeld ?_
   refine qT 6 (some 9) (qB 10 102) HT_ HW_ hHeld ?_
   refine Wm (σ:=Value×Value×Value) 3 #[true,true,true,true,true,true,true,false,false,false] (fun s_=>[(3,s_.1),(6,s_.2.1),(7,s_.2.2)]) (fun s_ w'=>(w'.cell? ⟨gb227,0,none⟩=some (.slice A0_0 l0_0.length c0_0)∧w'.cell? ⟨gb227,1,none⟩=some (.slice A0_1 l0_1.length c0_1))∧(Kd.R (Kd.int .u8) 5 w' w.heap.size (fun k_=>some k_≠(s_.2.2:Value).ownBlock) s_.2.1 y232)∧(Kd.R (Kd.int .u8) 5 w' w.heap.size (fun k_=>some k_≠(s_.2.1:Value).ownBlock) s_.2.2 y235)∧(w'.heap[gb227]?=some (.cells #[.slice A0_0 l0_0.length c0_0,.slice A0_1 l0_1.length c0_1] 24 (0,0)))∧(w'.heap[gb228]?=some (.cells #[.slice none 0 0,.slice none 0 0] 24 (0,0)))∧(Below w.heap.size w w')) ?_ ?_
   rotate_left
   ·intro hCont
    refine Uq (i:=0) (j:=4) (Ni:=some 3) (Nj:=some 7) #[true,true,true,false,false,true,true,false,false,false] #[false,true,true,false,true,true,true,false,false,false] rfl rfl rfl rfl (Ju HT_.out kr) (by decide) (by decide) (fun K hK=>?_) (fun K hK=>?_)
    ·skip
     refine Kd.Yl (Kd.int .u8) _ 5 ?hg (N:=3) ?hd (xs:=([]:List Int)) (inner:=[]) (ok:=fun _=>True) (okp:=fun _=>True) ?hr ?hp (fun _ hk=>hk) trivial (Below.refl _ _) (Nat.le_refl _) (by simp) ?_;(case hd=>rfl);(case hg=>rfl);(case hr=>first|(go_simp;done)|(go_simp;rfl));(case hp=>exact(Reps.none _ _))
     intro v230 w7 ho8 hb hg_ hnew_
     clear hg_ hnew_
     (first|rw[← Ny229.out] at ho8|(simp only[Int.reduceToNat] at ho8;rw[← Ny229.out] at ho8))
     have n0_:=Aside0.mk (Kd.Zd ho8 (Qj (by repeat(first|(with_reducible first|exact HB.out|apply Qe|apply Qa|apply Qf|refine Qg ?_ GE227.out|refine Qg ?_ GE228.out)|exact HB.out))))
     have n1_:=Aside0.mk (Qp (g:=gb227) (o:=.cells #[.slice A0_0 l0_0.length c0_0,.slice A0_1 l0_1.length c0_1] 24 (0,0)) (by(with_reducible repeat first|apply Qb|apply Qd|apply Qc);exact BK227.out) hb)
     have n2_:=Aside0.mk (Qp (g:=gb228) (o:=.cells #[.slice none 0 0,.slice none 0 0] 24 (0,0)) (by(with_reducible repeat first|apply Qb|apply Qd|apply Qc);exact BK228.out) hb)
     have n3_:=Aside0.mk (Qr (by repeat(first|(with_reducible first|exact HB.out|apply Qe|apply Qa|apply Qf|refine Qg ?_ GE227.out|refine Qg ?_ GE228.out)|exact HB.out)) hb)
     clear BK227
     clear BK228
     clear HB
     have HO231:=n0_
     have BK227:=n1_
     have BK228:=n2_
     have HB:=n3_
     clear n0_ n1_ n2_ n3_
     clear hb ho8
     refine hK.out _ _ ⟨qc BK227,qc BK227⟩ (fun hHeld=>?_)
     clear hK K
     refine qN (some 3) ?_
     refine Uq (i:=3) (j:=4) (Ni:=some 6) (Nj:=some 7) #[true,true,true,true,false,true,true,false,false,false] #[true,true,true,false,true,true,true,false,false,false] rfl rfl rfl rfl (Ju HT_.out kr) (by decide) (by decide) (fun K hK=>?_) (fun K hK=>?_)
     ·skip
      refine Kd.Xr (Kd.int .u8) (w0:=w) w.heap.size (by rfl) (.tmp 3) (.tmp 5) 22 5 (.int .u8 0) 1 rfl Tryd.underlying22 Zx rfl (by decide) (by omega) v230 y229 l0_0 _ _ _ (fun _=>True) (fun _=>False) rfl rfl ?aO ?aR (fun _ _ h=>h) (fun _ h=>h.elim) ?aF ?aB ?aS ?aL ?_
      (case aR=>repeat(first|exact(Kd.Zb HR0_0.out HB.out)|(with_reducible refine Kd.Zc ?_ _)|(with_reducible refine Kd.Za ?_ _)|(with_reducible refine Kd.Zh ?_)))
      (case aB=>exact(by repeat(first|(with_reducible first|exact HB.out|apply Qe|apply Qa|apply Qf|refine Qg ?_ GE227.out|refine Qg ?_ GE228.out)|exact HB.out)))
      (case aF=>exact(fun _ _=>trivial))
      (case aO=>exact(by(with_reducible repeat first|apply Kd.Qi|apply Kd.Qh|apply Kd.Ql);exact HO231.out))
      (case aS=>exact(Qj (by repeat(first|(with_reducible first|exact HB.out|apply Qe|apply Qa|apply Qf|refine Qg ?_ GE227.out|refine Qg ?_ GE228.out)|exact HB.out))))
      (case aL=>have:=LMc2.out;omega)
      intro v233 w9 ho hb hg hat
      rw[← Ny232.out] at ho
      have n0_:=Aside0.mk (Z2 (g:=gb227) (o:=.cells #[.slice A0_0 l0_0.length c0_0,.slice A0_1 l0_1.length c0_1] 24 (0,0)) (by(with_reducible repeat first|apply Qb|apply Qd|apply Qc);exact BK227.out) hg (Kd.Y5 HO231.out BK227.out (by decide)))
      have n1_:=Aside0.mk (Z2 (g:=gb228) (o:=.cells #[.slice none 0 0,.slice none 0 0] 24 (0,0)) (by(with_reducible repeat first|apply Qb|apply Qd|apply Qc);exact BK228.out) hg (Kd.Y5 HO231.out BK228.out (by decide)))
      have n2_:=Aside0.mk (hb)
      have n3_:=Aside0.mk (ho)
      clear BK227
      clear BK228
      clear HB
      clear HO231
      have BK227:=n0_
      have BK228:=n1_
      have HB:=n2_
      have HO234:=n3_
      clear n0_ n1_ n2_ n3_
      clear ho hb hg hat
      refine hK.out _ _ ⟨qc BK227,qc BK227⟩ (fun hHeld=>?_)
      clear hK K
      refine qN (some 6) ?_
      refine Ye (i:=4) (N:=some 7) #[true,true,true,true,true,true,true,false,false,false] rfl rfl (Z3 HT_.out kr) (by decide) (fun K hK=>?_)
      refine Kd.Yl (Kd.int .u8) _ 5 ?hg (N:=7) ?hd (xs:=([]:List Int)) (inner:=[]) (ok:=fun _=>True) (okp:=fun _=>True) ?hr ?hp (fun _ hk=>hk) trivial (Below.refl _ _) (Nat.le_refl _) (by simp) ?_;(case hd=>rfl);(case hg=>rfl);(case hr=>first|(go_simp;done)|(go_simp;rfl));(case hp=>exact(Reps.none _ _))
      intro v236 w10 ho11 hb hg_ hnew_
      clear hg_ hnew_
      (first|rw[← Ny235.out] at ho11|(simp only[Int.reduceToNat] at ho11;rw[← Ny235.out] at ho11))
      have n0_:=Aside0.mk (Kd.Zj (by(with_reducible repeat first|apply Kd.Qi|apply Kd.Qh|apply Kd.Ql);exact HO234.out) (Kd.Q5 ho11) hb)
      have n1_:=Aside0.mk (Kd.Zd (Kd.Zi ho11 (Kd.Zp (by(with_reducible repeat first|apply Kd.Qi|apply Kd.Qh|apply Kd.Ql);exact HO234.out))) (Qj (by repeat(first|(with_reducible first|exact HB.out|apply Qe|apply Qa|apply Qf|refine Qg ?_ GE227.out|refine Qg ?_ GE228.out)|exact HB.out))))
      have n2_:=Aside0.mk (Qp (g:=gb227) (o:=.cells #[.slice A0_0 l0_0.length c0_0,.slice A0_1 l0_1.length c0_1] 24 (0,0)) (by(with_reducible repeat first|apply Qb|apply Qd|apply Qc);exact BK227.out) hb)
      have n3_:=Aside0.mk (Qp (g:=gb228) (o:=.cells #[.slice none 0 0,.slice none 0 0] 24 (0,0)) (by(with_reducible repeat first|apply Qb|apply Qd|apply Qc);exact BK228.out) hb)
      have n4_:=Aside0.mk (Qr (by repeat(first|(with_reducible first|exact HB.out|apply Qe|apply Qa|apply Qf|refine Qg ?_ GE227.out|refine Qg ?_ GE228.out)|exact HB.out)) hb)
      clear HO234
      clear BK227
      clear BK228
      clear HB
      have HO234:=n0_
      have HO237:=n1_
      have BK227:=n2_
      have BK228:=n3_
      have HB:=n4_
      clear n0_ n1_ n2_ n3_ n4_
      clear hb ho11
      refine hK.out _ _ ⟨qc BK227,qc BK227⟩ (fun hHeld=>?_)
      clear hK K
      refine qN (some 7) ?_
      exact Yt (by simp only[Xv,Act.put,qS]) (hCont (v230,v233,v236) _ ⟨hHeld,(by(with_reducible repeat first|apply Kd.Qi|apply Kd.Qh|apply Kd.Ql);exact Kd.Qu HO234.out (fun _ hk=>hk.2)),(by(with_reducible repeat first|apply Kd.Qi|apply Kd.Qh|apply Kd.Ql);exact Kd.Qu HO237.out (fun _ hk=>hk.2)),(by(with_reducible repeat first|apply Qb|apply Qd|apply Qc);exact BK227.out),(by(with_reducible repeat first|apply Qb|apply Qd|apply Qc);exact BK228.out),(by repeat(first|(with_reducible first|exact HB.out|apply Qe|apply Qa|apply Qf|refine Qg ?_ GE227.out|refine Qg ?_ GE228.out)|exact HB.out))⟩)
     ·skip
      refine Kd.Yl (Kd.int .u8) _ 5 ?hg (N:=7) ?hd (xs:=([]:List Int)) (inner:=[]) (ok:=fun _=>True) (okp:=fun _=>True) ?hr ?hp (fun _ hk=>hk) trivial (Below.refl _ _) (Nat.le_refl _) (by simp) ?_;(case hd=>rfl);(case hg=>rfl);(case hr=>first|(go_simp;done)|(go_simp;rfl));(case hp=>exact(Reps.none _ _))
      intro v236 w9 ho10 hb hg_ hnew_
      clear hg_ hnew_
      (first|rw[← Ny235.out] at ho10|(simp only[Int.reduceToNat] at ho10;rw[← Ny235.out] at ho10))
      have n0_:=Aside0.mk (Kd.Zj (by(with_reducible repeat first|apply Kd.Qi|apply Kd.Qh|apply Kd.Ql);exact HO231.out) (Kd.Q5 ho10) hb)
      have n1_:=Aside0.mk (Kd.Zd (Kd.Zi ho10 (Kd.Zp (by(with_reducible repeat first|apply Kd.Qi|apply Kd.Qh|apply Kd.Ql);exact HO231.out))) (Qj (by repeat(first|(with_reducible first|exact HB.out|apply Qe|apply Qa|apply Qf|refine Qg ?_ GE227.out|refine Qg ?_ GE228.out)|exact HB.out))))
      have n2_:=Aside0.mk (Qp (g:=gb227) (o:=.cells #[.slice A0_0 l0_0.length c0_0,.slice A0_1 l0_1.length c0_1] 24 (0,0)) (by(with_reducible repeat first|apply Qb|apply Qd|apply Qc);exact BK227.out) hb)
      have n3_:=Aside0.mk (Qp (g:=gb228) (o:=.cells #[.slice none 0 0,.slice none 0 0] 24 (0,0)) (by(with_reducible repeat first|apply Qb|apply Qd|apply Qc);exact BK228.out) hb)
      have n4_:=Aside0.mk (Qr (by repeat(first|(with_reducible first|exact HB.out|apply Qe|apply Qa|apply Qf|refine Qg ?_ GE227.out|refine Qg ?_ GE228.out)|exact HB.out)) hb)
      clear HO231
      clear BK227
      clear BK228
      clear HB
      have HO231:=n0_
      have HO237:=n1_
      have BK227:=n2_
      have BK228:=n3_
      have HB:=n4_
      clear n0_ n1_ n2_ n3_ n4_
      clear hb ho10
      refine hK.out _ _ ⟨qc BK227,qc BK227⟩ (fun hHeld=>?_)
      clear hK K
      refine qN (some 7) ?_
      refine Ye (i:=3) (N:=some 6) #[true,true,true,true,true,true,true,false,false,false] rfl rfl (Z3 HT_.out kr) (by decide) (fun K hK=>?_)
      refine Kd.Xr (Kd.int .u8) (w0:=w) w.heap.size (by rfl) (.tmp 3) (.tmp 5) 22 5 (.int .u8 0) 1 rfl Tryd.underlying22 Zx rfl (by decide) (by omega) v230 y229 l0_0 _ _ _ (fun k_=>some k_≠(v236:Value).ownBlock) (fun _=>False) rfl rfl ?aO ?aR (fun _ _ h=>h) (fun _ h=>h.elim) ?aF ?aB ?aS ?aL ?_
      (case aR=>repeat(first|exact(Kd.Zb HR0_0.out HB.out)|(with_reducible refine Kd.Zc ?_ _)|(with_reducible refine Kd.Za ?_ _)|(with_reducible refine Kd.Zh ?_)))
      (case aB=>exact(by repeat(first|(with_reducible first|exact HB.out|apply Qe|apply Qa|apply Qf|refine Qg ?_ GE227.out|refine Qg ?_ GE228.out)|exact HB.out)))
      (case aF=>exact(fun k_ hk=>Kd.fresh' (Kd.Zp (by(with_reducible repeat first|apply Kd.Qi|apply Kd.Qh|apply Kd.Ql);exact HO237.out)) k_ hk))
      (case aO=>exact(by(with_reducible repeat first|apply Kd.Qi|apply Kd.Qh|apply Kd.Ql);exact Kd.Qu HO231.out (fun _ hk=>hk.2)))
      (case aS=>exact(Qj (by repeat(first|(with_reducible first|exact HB.out|apply Qe|apply Qa|apply Qf|refine Qg ?_ GE227.out|refine Qg ?_ GE228.out)|exact HB.out))))
      (case aL=>have:=LMc2.out;omega)
      intro v233 w11 ho hb hg hat
      rw[← Ny232.out] at ho
      have n0_:=Aside0.mk (Z2 (g:=gb227) (o:=.cells #[.slice A0_0 l0_0.length c0_0,.slice A0_1 l0_1.length c0_1] 24 (0,0)) (by(with_reducible repeat first|apply Qb|apply Qd|apply Qc);exact BK227.out) hg (Kd.Y5 HO231.out BK227.out (by decide)))
      have n1_:=Aside0.mk (Z2 (g:=gb228) (o:=.cells #[.slice none 0 0,.slice none 0 0] 24 (0,0)) (by(with_reducible repeat first|apply Qb|apply Qd|apply Qc);exact BK228.out) hg (Kd.Y5 HO231.out BK228.out (by decide)))
      have n2_:=Aside0.mk (Kd.Ym (ok:=(fun _=>True)) (by(with_reducible repeat first|apply Kd.Qi|apply Kd.Qh|apply Kd.Ql);exact HO237.out) hg hat)
      have n3_:=Aside0.mk (hb)
      have n4_:=Aside0.mk (ho)
      clear BK227
      clear BK228
      clear HO237
      clear HB
      clear HO231
      have BK227:=n0_
      have BK228:=n1_
      have HO237:=n2_
      have HB:=n3_
      have HO234:=n4_
      clear n0_ n1_ n2_ n3_ n4_
      clear ho hb hg hat
      refine hK.out _ _ ⟨qc BK227,qc BK227⟩ (fun hHeld=>?_)
      clear hK K
      refine qN (some 6) ?_
      exact Yt (by simp only[Xv,Act.put,qS]) (hCont (v230,v233,v236) _ ⟨hHeld,(by(with_reducible repeat first|apply Kd.Qi|apply Kd.Qh|apply Kd.Ql);exact HO234.out),(by(with_reducible repeat first|apply Kd.Qi|apply Kd.Qh|apply Kd.Ql);exact Kd.Qu HO237.out (fun _ hk=>hk.2)),(by(with_reducible repeat first|apply Qb|apply Qd|apply Qc);exact BK227.out),(by(with_reducible repeat first|apply Qb|apply Qd|apply Qc);exact BK228.out),(by repeat(first|(with_reducible first|exact HB.out|apply Qe|apply Qa|apply Qf|refine Qg ?_ GE227.out|refine Qg ?_ GE228.out)|exact HB.out))⟩)
    ·skip
     refine Kd.Yl (Kd.int .u8) _ 5 ?hg (N:=7) ?hd (xs:=([]:List Int)) (inner:=[]) (ok:=fun _=>True) (okp:=fun _=>True) ?hr ?hp (fun _ hk=>hk) trivial (Below.refl _ _) (Nat.le_refl _) (by simp) ?_;(case hd=>rfl);(case hg=>rfl);(case hr=>first|(go_simp;done)|(go_simp;rfl));(case hp=>exact(Reps.none _ _))
     intro v236 w7 ho8 hb hg_ hnew_
     clear hg_ hnew_
     (first|rw[← Ny235.out] at ho8|(simp only[Int.reduceToNat] at ho8;rw[← Ny235.out] at ho8))
     have n0_:=Aside0.mk (Kd.Zd ho8 (Qj (by repeat(first|(with_reducible first|exact HB.out|apply Qe|apply Qa|apply Qf|refine Qg ?_ GE227.out|refine Qg ?_ GE228.out)|exact HB.out))))
     have n1_:=Aside0.mk (Qp (g:=gb227) (o:=.cells #[.slice A0_0 l0_0.length c0_0,.slice A0_1 l0_1.length c0_1] 24 (0,0)) (by(with_reducible repeat first|apply Qb|apply Qd|apply Qc);exact BK227.out) hb)
     have n2_:=Aside0.mk (Qp (g:=gb228) (o:=.cells #[.slice none 0 0,.slice none 0 0] 24 (0,0)) (by(with_reducible repeat first|apply Qb|apply Qd|apply Qc);exact BK228.out) hb)
     have n3_:=Aside0.mk (Qr (by repeat(first|(with_reducible first|exact HB.out|apply Qe|apply Qa|apply Qf|refine Qg ?_ GE227.out|refine Qg ?_ GE228.out)|exact HB.out)) hb)
     clear BK227
     clear BK228
     clear HB
     have HO237:=n0_
     have BK227:=n1_
     have BK228:=n2_
     have HB:=n3_
     clear n0_ n1_ n2_ n3_
     clear hb ho8
     refine hK.out _ _ ⟨qc BK227,qc BK227⟩ (fun hHeld=>?_)
     clear hK K
     refine qN (some 7) ?_
     refine Ye (i:=0) (N:=some 3) #[true,true,true,false,true,true,true,false,false,false] rfl rfl (Z3 HT_.out kr) (by decide) (fun K hK=>?_)
     refine Kd.Yl (Kd.int .u8) _ 5 ?hg (N:=3) ?hd (xs:=([]:List Int)) (inner:=[]) (ok:=fun _=>True) (okp:=fun _=>True) ?hr ?hp (fun _ hk=>hk) trivial (Below.refl _ _) (Nat.le_refl _) (by simp) ?_;(case hd=>rfl);(case hg=>rfl);(case hr=>first|(go_simp;done)|(go_simp;rfl));(case hp=>exact(Reps.none _ _))
     intro v230 w9 ho10 hb hg_ hnew_
     clear hg_ hnew_
     (first|rw[← Ny229.out] at ho10|(simp only[Int.reduceToNat] at ho10;rw[← Ny229.out] at ho10))
     have n0_:=Aside0.mk (Kd.Zj (by(with_reducible repeat first|apply Kd.Qi|apply Kd.Qh|apply Kd.Ql);exact HO237.out) (Kd.Q5 ho10) hb)
     have n1_:=Aside0.mk (Kd.Zd (Kd.Zi ho10 (Kd.Zp (by(with_reducible repeat first|apply Kd.Qi|apply Kd.Qh|apply Kd.Ql);exact HO237.out))) (Qj (by repeat(first|(with_reducible first|exact HB.out|apply Qe|apply Qa|apply Qf|refine Qg ?_ GE227.out|refine Qg ?_ GE228.out)|exact HB.out))))
     have n2_:=Aside0.mk (Qp (g:=gb227) (o:=.cells #[.slice A0_0 l0_0.length c0_0,.slice A0_1 l0_1.length c0_1] 24 (0,0)) (by(with_reducible repeat first|apply Qb|apply Qd|apply Qc);exact BK227.out) hb)
     have n3_:=Aside0.mk (Qp (g:=gb228) (o:=.cells #[.slice none 0 0,.slice none 0 0] 24 (0,0)) (by(with_reducible repeat first|apply Qb|apply Qd|apply Qc);exact BK228.out) hb)
     have n4_:=Aside0.mk (Qr (by repeat(first|(with_reducible first|exact HB.out|apply Qe|apply Qa|apply Qf|refine Qg ?_ GE227.out|refine Qg ?_ GE228.out)|exact HB.out)) hb)
     clear HO237
     clear BK227
     clear BK228
     clear HB
     have HO237:=n0_
     have HO231:=n1_
     have BK227:=n2_
     have BK228:=n3_
     have HB:=n4_
     clear n0_ n1_ n2_ n3_ n4_
     clear hb ho10
     refine hK.out _ _ ⟨qc BK227,qc BK227⟩ (fun hHeld=>?_)
     clear hK K
     refine qN (some 3) ?_
     refine Ye (i:=3) (N:=some 6) #[true,true,true,true,true,true,true,false,false,false] rfl rfl (Z3 HT_.out kr) (by decide) (fun K hK=>?_)
     refine Kd.Xr (Kd.int .u8) (w0:=w) w.heap.size (by rfl) (.tmp 3) (.tmp 5) 22 5 (.int .u8 0) 1 rfl Tryd.underlying22 Zx rfl (by decide) (by omega) v230 y229 l0_0 _ _ _ (fun k_=>some k_≠(v236:Value).ownBlock) (fun _=>False) rfl rfl ?aO ?aR (fun _ _ h=>h) (fun _ h=>h.elim) ?aF ?aB ?aS ?aL ?_
     (case aR=>repeat(first|exact(Kd.Zb HR0_0.out HB.out)|(with_reducible refine Kd.Zc ?_ _)|(with_reducible refine Kd.Za ?_ _)|(with_reducible refine Kd.Zh ?_)))
     (case aB=>exact(by repeat(first|(with_reducible first|exact HB.out|apply Qe|apply Qa|apply Qf|refine Qg ?_ GE227.out|refine Qg ?_ GE228.out)|exact HB.out)))
     (case aF=>exact(fun k_ hk=>Kd.fresh' (Kd.Zp (by(with_reducible repeat first|apply Kd.Qi|apply Kd.Qh|apply Kd.Ql);exact HO237.out)) k_ hk))
     (case aO=>exact(by(with_reducible repeat first|apply Kd.Qi|apply Kd.Qh|apply Kd.Ql);exact Kd.Qu HO231.out (fun _ hk=>hk.2)))
     (case aS=>exact(Qj (by repeat(first|(with_reducible first|exact HB.out|apply Qe|apply Qa|apply Qf|refine Qg ?_ GE227.out|refine Qg ?_ GE228.out)|exact HB.out))))
     (case aL=>have:=LMc2.out;omega)
     intro v233 w11 ho hb hg hat
     rw[← Ny232.out] at ho
     have n0_:=Aside0.mk (Z2 (g:=gb227) (o:=.cells #[.slice A0_0 l0_0.length c0_0,.slice A0_1 l0_1.length c0_1] 24 (0,0)) (by(with_reducible repeat first|apply Qb|apply Qd|apply Qc);exact BK227.out) hg (Kd.Y5 HO231.out BK227.out (by decide)))
     have n1_:=Aside0.mk (Z2 (g:=gb228) (o:=.cells #[.slice none 0 0,.slice none 0 0] 24 (0,0)) (by(with_reducible repeat first|apply Qb|apply Qd|apply Qc);exact BK228.out) hg (Kd.Y5 HO231.out BK228.out (by decide)))
     have n2_:=Aside0.mk (Kd.Ym (ok:=(fun _=>True)) (by(with_reducible repeat first|apply Kd.Qi|apply Kd.Qh|apply Kd.Ql);exact HO237.out) hg hat)
     have n3_:=Aside0.mk (hb)
     have n4_:=Aside0.mk (ho)
     clear BK227
     clear BK228
     clear HO237
     clear HB
     clear HO231
     have BK227:=n0_
     have BK228:=n1_
     have HO237:=n2_
     have HB:=n3_
     have HO234:=n4_
     clear n0_ n1_ n2_ n3_ n4_
     clear ho hb hg hat
     refine hK.out _ _ ⟨qc BK227,qc BK227⟩ (fun hHeld=>?_)
     clear hK K
     refine qN (some 6) ?_
     exact Yt (by simp only[Xv,Act.put,qS]) (hCont (v230,v233,v236) _ ⟨hHeld,(by(with_reducible repeat first|apply Kd.Qi|apply Kd.Qh|apply Kd.Ql);exact HO234.out),(by(with_reducible repeat first|apply Kd.Qi|apply Kd.Qh|apply Kd.Ql);exact Kd.Qu HO237.out (fun _ hk=>hk.2)),(by(with_reducible repeat first|apply Qb|apply Qd|apply Qc);exact BK227.out),(by(with_reducible repeat first|apply Qb|apply Qd|apply Qc);exact BK228.out),(by repeat(first|(with_reducible first|exact HB.out|apply Qe|apply Qa|apply Qf|refine Qg ?_ GE227.out|refine Qg ?_ GE228.out)|exact HB.out))⟩)
   rintro⟨v230,v233,v236⟩ w12 ⟨hS_,h0_,h1_,h2_,h3_,h4_⟩
   have n0_:Aside0 (Kd.R (Kd.int .u8) 5 w12 w.heap.size (fun k_=>some k_≠(v236:Value).ownBlock) v233 y232):=⟨h0_⟩
   have n1_:Aside0 (Kd.R (Kd.int .u8) 5 w12 w.heap.size (fun k_=>some k_≠(v233:Value).ownBlock) v236 y235):=⟨h1_⟩
   have n2_:Aside0 (w12.heap[gb227]?=some (.cells #[.slice A0_0 l0_0.length c0_0,.slice A0_1 l0_1.length c0_1] 24 (0,0))):=⟨h2_⟩
   have n3_:Aside0 (w12.heap[gb228]?=some (.cells #[.slice none 0 0,.slice none 0 0] 24 (0,0))):=⟨h3_⟩
   have n4_:Aside0 (Below w.heap.size w w12):=⟨h4_⟩
   clear BK227
   clear BK228
   clear HB
   clear h0_ h1_ h2_ h3_ h4_
   have HO234:=n0_
   have HO237:=n1_
   have BK227:=n2_
   have BK228:=n3_
   have HB:=n4_
   clear n0_ n1_ n2_ n3_ n4_
   have hHeld:w12.cell? ⟨gb227,0,none⟩=some (.slice A0_0 l0_0.length c0_0)∧w12.cell? ⟨gb227,1,none⟩=some (.slice A0_1 l0_1.length c0_1):=hS_
   refine Yt (a':=?_) ?_ ?_
   rotate_left
   ·simp only[Xv,Act.put,qS]
    rfl
   refine Ye (i:=7) (N:=some 10) #[true,true,true,true,true,true,true,true,false,false] rfl rfl (Z3 HT_.out kr) (by decide) (fun K hK=>?_)
   refine Kd.Xr (Kd.int .u8) (w0:=w) w.heap.size (by rfl) (.tmp 7) (.tmp 9) 22 5 (.int .u8 0) 1 rfl Tryd.underlying22 Zx rfl (by decide) (by omega) v236 y235 l0_1 _ _ _ (fun k_=>some k_≠(v233:Value).ownBlock) (fun _=>False) rfl rfl ?aO ?aR (fun _ _ h=>h) (fun _ h=>h.elim) ?aF ?aB ?aS ?aL ?_
   (case aR=>repeat(first|exact(Kd.Zb HR0_1.out HB.out)|(with_reducible refine Kd.Zc ?_ _)|(with_reducible refine Kd.Za ?_ _)|(with_reducible refine Kd.Zh ?_)))
   (case aB=>exact(by repeat(first|(with_reducible first|exact HB.out|apply Qe|apply Qa|apply Qf|refine Qg ?_ GE227.out|refine Qg ?_ GE228.out)|exact HB.out)))
   (case aF=>exact(fun k_ hk=>Kd.fresh' (Kd.Zp (by(with_reducible repeat first|apply Kd.Qi|apply Kd.Qh|apply Kd.Ql);exact HO234.out)) k_ hk))
   (case aO=>exact(by(with_reducible repeat first|apply Kd.Qi|apply Kd.Qh|apply Kd.Ql);exact HO237.out))
   (case aS=>exact(Qj (by repeat(first|(with_reducible first|exact HB.out|apply Qe|apply Qa|apply Qf|refine Qg ?_ GE227.out|refine Qg ?_ GE228.out)|exact HB.out))))
   (case aL=>have:=LMc3.out;omega)
   intro v239 w13 ho hb hg hat
   rw[← Ny238.out] at ho
   have n0_:=Aside0.mk (Z2 (g:=gb227) (o:=.cells #[.slice A0_0 l0_0.length c0_0,.slice A0_1 l0_1.length c0_1] 24 (0,0)) (by(with_reducible repeat first|apply Qb|apply Qd|apply Qc);exact BK227.out) hg (Kd.Y5 HO237.out BK227.out (by decide)))
   have n1_:=Aside0.mk (Z2 (g:=gb228) (o:=.cells #[.slice none 0 0,.slice none 0 0] 24 (0,0)) (by(with_reducible repeat first|apply Qb|apply Qd|apply Qc);exact BK228.out) hg (Kd.Y5 HO237.out BK228.out (by decide)))
   have n2_:=Aside0.mk (Kd.Ym (ok:=(fun _=>True)) (by(with_reducible repeat first|apply Kd.Qi|apply Kd.Qh|apply Kd.Ql);exact Kd.Qu HO234.out (fun _ hk=>⟨trivial,hk⟩)) hg hat)
   have n3_:=Aside0.mk (hb)
   have n4_:=Aside0.mk (ho)
   clear BK227
   clear BK228
   clear HO234
   clear HB
   clear HO237
   have BK227:=n0_
   have BK228:=n1_
   have HO234:=n2_
   have HB:=n3_
   have HO240:=n4_
   clear n0_ n1_ n2_ n3_ n4_
   clear ho hb hg hat
   obtain⟨Ao14,co14,eo14⟩:=Kd.Zf HO240.out
   (first|subst eo14|(injection eo14 with f1_ f2_ f3_;have f4_:=f1_.symm;have f5_:=f3_.symm;clear f1_ f2_ f3_;subst f4_;subst f5_))
   obtain⟨Ao15,co15,eo15⟩:=Kd.Zf HO234.out
   (first|subst eo15|(injection eo15 with f1_ f2_ f3_;have f4_:=f1_.symm;have f5_:=f3_.symm;clear f1_ f2_ f3_;subst f4_;subst f5_))
   refine hK.out _ _ ⟨qc BK227,qc BK227⟩ (fun hHeld=>?_)
   clear hK K
   refine qN (some 10) ?_
   refine qP 8 (some 11) (qB 10 511) HT_ ?_
   refine Ye (i:=9) (N:=none) #[true,true,true,true,true,true,true,true,true,true] rfl rfl (Z3 HT_.out kr) (by decide) (fun K hK=>?_)
   have hs16:w13.cell? ⟨gb228,0,none⟩=some (.slice none 0 0):=(Q3 BK228.out 0).trans rfl
   have hfs16:=Q6 BK228.out 0
   have hns16_0:=NB227_228.out
   have hms16_0:=NB228_227.out
   have hs17:w13.cell? ⟨gb228,1,none⟩=some (.slice none 0 0):=(Q3 BK228.out 1).trans rfl
   have hfs17:=Q6 BK228.out 1
   have hns17_0:=NB227_228.out
   have hms17_0:=NB228_227.out
   refine J0 (w1:=?_) (by rfl) rfl ?_ ?_
   rotate_left
   ·go_simp
    rfl
   refine hK.out _ _ ⟨((cell_far (p:=⟨gb228,_,none⟩) NB227_228.out _).trans (((cell_far (p:=⟨gb228,_,none⟩) NB227_228.out _).trans (hHeld.1)))),((cell_far (p:=⟨gb228,_,none⟩) NB227_228.out _).trans (((cell_far (p:=⟨gb228,_,none⟩) NB227_228.out _).trans (hHeld.2))))⟩ (fun hHeld=>?_)
   clear hK K
   refine Jc (Yi HT_.out kr) ?_
   try go_wp2
   refine bodyPost_ret (results_cell_row rfl _ _ gb228 24 #[.slice Ao15 y232.length co15,.slice Ao14 y238.length co14] (0,0) _ rfl (by(with_reducible repeat first|apply Qb|apply Qd|apply Qc);refine Qk (cs:=#[.slice Ao15 y232.length co15,.slice none 0 0]) ?_ 1 _ rfl;(with_reducible repeat first|apply Qb|apply Qd|apply Qc);refine Qk (cs:=#[.slice none 0 0,.slice none 0 0]) ?_ 0 _ rfl;(with_reducible repeat first|apply Qb|apply Qd|apply Qc);exact BK228.out) Tryd.underlying24 rfl kr) rfl ?_
   exact⟨_,_,by first|rfl|(simp[Qo,Qn] <;> rfl)|(simp[*,Qo,Qn] <;> rfl),by(with_reducible repeat first|apply Kd.Qi|apply Kd.Qh|apply Kd.Ql);exact Kd.Qu (Kd.Qm (p:=⟨gb228,1,none⟩) (Kd.Qm (p:=⟨gb228,0,none⟩) (Kd.Qy HO234.out BK228.out (by decide)) (fun _ hk=>hk.2) (.slice Ao15 y232.length co15)) (fun _ hk=>hk.2) (.slice Ao14 y238.length co14)) (fun _ hk=>hk.1.2),by(with_reducible repeat first|apply Kd.Qi|apply Kd.Qh|apply Kd.Ql);exact Kd.Qu (Kd.Qm (p:=⟨gb228,1,none⟩) (Kd.Qm (p:=⟨gb228,0,none⟩) (Kd.Qy HO240.out BK228.out (by decide)) (fun _ hk=>hk.2) (.slice Ao15 y232.length co15)) (fun _ hk=>hk.2) (.slice Ao14 y238.length co14)) (fun _ hk=>hk.1),by repeat(first|(with_reducible first|exact HB.out|apply Qe|apply Qa|apply Qf|refine Qg ?_ GE227.out|refine Qg ?_ GE228.out)|exact HB.out)⟩
  ·rw[if_neg c3] at H
   exact absurd H (by simp)
 ·rw[if_neg c2] at H
  exact absurd H (by simp)
def newelref12_Few.f (l0_0:List Int) (l0_1:List Int):Option (Bool):=if (l0_0.length:Int)≤5000 then (some (decide ((l0_1.length:Int)≤5000))) else (some false)
set_option maxHeartbeats 8000000 in
set_option maxRecDepth 100000 in
theorem newelref12_Few.calls (A0_0:Option Addr) (c0_0:Nat) (l0_0:List Int) (A0_1:Option Addr) (c0_1:Nat) (l0_1:List Int) (r:Bool) (w:World) (hr0_0:Kd.C (Kd.int .u8) w A0_0 l0_0.length l0_0) (hc0_0:l0_0.length≤c0_0) (hr0_1:Kd.C (Kd.int .u8) w A0_1 l0_1.length l0_1) (hc0_1:l0_1.length≤c0_1) (h:newelref12_Few.f l0_0 l0_1=some r):
  Calls Tryd.prog 9 #[.agg #[.slice A0_0 l0_0.length c0_0,.slice A0_1 l0_1.length c0_1]] w fun e w'=>e = .returned (.bool r)∧Below w.heap.size w w':=by
 have hu24:=Tryd.underlying24
 have HR0_0:=Aside0.mk hr0_0
 have HC0_0:=Aside0.mk hc0_0
 clear hr0_0 hc0_0
 have HR0_1:=Aside0.mk hr0_1
 have HC0_1:=Aside0.mk hc0_1
 clear hr0_1 hc0_1
 have HB:=Aside0.mk (Below.refl w.heap.size w)
 have H:(if (l0_0.length:Int)≤5000 then (some (decide ((l0_1.length:Int)≤5000))) else (some false))=some r:=h
 clear h
 by_cases c2:(l0_0.length:Int)≤5000
 ·rw[if_pos c2] at H
  have c2b0:decide ((l0_0.length:Int)≤5000)=true:=decide_eq_true c2
  have c2b1:decide (l0_0.length≤5000)=true:=decide_eq_true (by omega)
  clear c2
  obtain rfl:=Option.some.inj H
  go_enter Tryd.func9,Tryd.ntmps9
  go_wp2_with (first|((with_reducible refine Qz (N:=1) rfl ?_);(try(refine Zw (by rfl) ?_;dsimp only));refine Q7 ?hg (N:=1) ?hd (cs:=#[.slice A0_0 l0_0.length c0_0,.slice A0_1 l0_1.length c0_1]) (t:=24) ?hr ?_;(case hd=>rfl);(case hg=>rfl);(case hr=>first|(go_simp;done)|(go_simp;rfl));intro gb101 hg w3 hbox hb;have n0_:=Aside0.mk (Qr (by repeat(first|(with_reducible first|exact HB.out|apply Qe|apply Qa|apply Qf)|exact HB.out)) hb);have n1_:=Aside0.mk (hbox);have n2_:=Aside0.mk ((by rw[hg];exact(Qj (by repeat(first|(with_reducible first|exact HB.out|apply Qe|apply Qa|apply Qf)|exact HB.out))):w.heap.size≤gb101));have n3_:=Aside0.mk ((by rw[hg];exact(Qj (by repeat(first|(with_reducible first|exact HB.out|apply Qe|apply Qa|apply Qf)|exact HB.out))):w.heap.size≤gb101));clear HB;have HB:=n0_;have BK101:=n1_;have GW101:=n2_;have GE101:=n3_;clear n0_ n1_ n2_ n3_;clear hb hbox hg;obtain⟨hcz4_0,hcz4_1,hfz4_0,hfz4_1⟩:=qD2 BK101.out))
  go_ret
  exact⟨by first|rfl|(simp[Qo,Qn] <;> rfl)|(simp[*,Qo,Qn] <;> rfl),by repeat(first|(with_reducible first|exact HB.out|apply Qe|apply Qa|apply Qf|refine Qg ?_ GE101.out)|exact HB.out)⟩
 ·rw[if_neg c2] at H
  have c2b0:decide ((l0_0.length:Int)≤5000)=false:=decide_eq_false c2
  have c2b1:decide (l0_0.length≤5000)=false:=decide_eq_false (by omega)
  clear c2
  obtain rfl:=Option.some.inj H
  go_enter Tryd.func9,Tryd.ntmps9
  go_wp2_with (first|((with_reducible refine Qz (N:=1) rfl ?_);(try(refine Zw (by rfl) ?_;dsimp only));refine Q7 ?hg (N:=1) ?hd (cs:=#[.slice A0_0 l0_0.length c0_0,.slice A0_1 l0_1.length c0_1]) (t:=24) ?hr ?_;(case hd=>rfl);(case hg=>rfl);(case hr=>first|(go_simp;done)|(go_simp;rfl));intro gb101 hg w5 hbox hb;have n0_:=Aside0.mk (Qr (by repeat(first|(with_reducible first|exact HB.out|apply Qe|apply Qa|apply Qf)|exact HB.out)) hb);have n1_:=Aside0.mk (hbox);have n2_:=Aside0.mk ((by rw[hg];exact(Qj (by repeat(first|(with_reducible first|exact HB.out|apply Qe|apply Qa|apply Qf)|exact HB.out))):w.heap.size≤gb101));have n3_:=Aside0.mk ((by rw[hg];exact(Qj (by repeat(first|(with_reducible first|exact HB.out|apply Qe|apply Qa|apply Qf)|exact HB.out))):w.heap.size≤gb101));clear HB;have HB:=n0_;have BK101:=n1_;have GW101:=n2_;have GE101:=n3_;clear n0_ n1_ n2_ n3_;clear hb hbox hg;obtain⟨hcz6_0,hcz6_1,hfz6_0,hfz6_1⟩:=qD2 BK101.out))
  go_ret
  exact⟨by first|rfl|(simp[Qo,Qn] <;> rfl)|(simp[*,Qo,Qn] <;> rfl),by repeat(first|(with_reducible first|exact HB.out|apply Qe|apply Qa|apply Qf|refine Qg ?_ GE101.out)|exact HB.out)⟩
def newelref08_value.l0:Nat→List Int→Int→Int→Option (Int)
 |0,_,_,_=>none
 |k+1,x0,x3,x4=>if x4≥0 then (if 0≤x4 then (if x4<(x0.length:Int) then (newelref08_value.l0 k x0 (IntKind.u64.wrap ((IntKind.u64.wrap (x3 * 128))+(IntKind.u64.wrap (Int.tmod (rd x0 x4) 128)))) (wrap64 (x4-1))) else (none)) else (none)) else (if (Int.tmod x3 2)=1 then (some (wrap64 ((-1) - (wrap64 (IntKind.u64.wrap (Int.tdiv x3 2)))))) else (some (wrap64 (IntKind.u64.wrap (Int.tdiv x3 2)))))
def newelref08_value.f (k:Nat) (l0:List Int):Option (Int):=newelref08_value.l0 k l0 0 (wrap64 ((l0.length:Int)-1))
theorem newelref08_value.Zl:∀ k,(∀ y0 y1 y2,LeO (newelref08_value.l0 k y0 y1 y2) (newelref08_value.l0 (k+1) y0 y1 y2))
 |0=>fun _ _ _ r h=>by simp[newelref08_value.l0] at h
 |k+1=>by
  have ih0:=newelref08_value.Zl k
  ·intro y0 y1 y2
   unfold newelref08_value.l0
   repeat' first
   |(with_reducible exact ih0 _ _ _)
   |(with_reducible exact LeO.refl _)
   |(with_reducible exact LeO.none _)
   |(with_reducible refine LeO.ite ?_ ?_)
   |(with_reducible refine LeO.bind ?_ (fun _=>?_))
   |exact ih0 _ _ _
   |exact LeO.none _
   |refine LeO.ite ?_ ?_
   |refine LeO.bind ?_ (fun _=>?_)
theorem newelref08_value.mono:∀ a0 k,LeO (newelref08_value.f k a0) (newelref08_value.f (k+1) a0):=by
 intro a0 k
 have ih0:=newelref08_value.Zl k
 unfold newelref08_value.f
 repeat' first
   |(with_reducible exact ih0 _ _ _)
   |(with_reducible exact LeO.refl _)
   |(with_reducible exact LeO.none _)
   |(with_reducible refine LeO.ite ?_ ?_)
   |(with_reducible refine LeO.bind ?_ (fun _=>?_))
   |exact ih0 _ _ _
   |exact LeO.none _
   |refine LeO.ite ?_ ?_
   |refine LeO.bind ?_ (fun _=>?_)
set_option maxHeartbeats 8000000 in
set_option maxRecDepth 100000 in
theorem newelref08_value.calls (k:Nat) (A0:Option Addr) (c0:Nat) (l0:List Int) (r:Int) (w:World) (hr0:Kd.C (Kd.int .u8) w A0 l0.length l0) (hc0:l0.length≤c0) (h:newelref08_value.f k l0=some r):
  Calls Tryd.prog 46 #[.slice A0 l0.length c0] w fun e w'=>e = .returned (.int .i64 r)∧Drawn0 w w':=by
 have HR0:=Aside0.mk hr0
 have HC0:=Aside0.mk hc0
 clear hr0 hc0
 have H:(newelref08_value.l0 k l0 0 (wrap64 ((l0.length:Int)-1)))=some r:=h
 clear h
 have H':=Aside0.mk H
 clear H
 go_enter Tryd.func46,Tryd.ntmps46
 go_wp2
 go_loopg [3,4] k (fun kq v3 v4 w'=>∃ (x3_1:Int) (x4_1:Int),v3 = .int .u64 x3_1∧v4 = .int .i64 x4_1∧Aside0 (newelref08_value.l0 kq l0 x3_1 x4_1=some r)∧Aside0 (kq≤k)∧Drawn0 w w')
 case atStart=>exact⟨(0),(wrap64 ((l0.length:Int)-1)),qR,qR,H',⟨Nat.le_refl _⟩,by repeat(first|exact Drawn0.refl _|apply Drawn0.step)⟩
 case round=>
  clear H'
  obtain⟨x3_1,x4_1,rfl,rfl,HA,HK1,⟨m1,rfl⟩⟩:=hrel
  cases gk with
  |zero=>exact absurd HA.out (by simp[newelref08_value.l0])
  |succ k1=>
   have H:=HA.out
   clear HA
   simp only[newelref08_value.l0] at H
   by_cases c2:x4_1≥0
   ·rw[if_pos c2] at H
    have c2b0:decide (0≤x4_1)=true:=decide_eq_true c2
    clear c2
    by_cases c3:0≤x4_1
    ·rw[if_pos c3] at H
     have c3b0:decide (0≤x4_1)=true:=decide_eq_true c3
     clear c3
     by_cases c4:x4_1<(l0.length:Int)
     ·rw[if_pos c4] at H
      have c4b0:decide (x4_1<(l0.length:Int))=true:=decide_eq_true c4
      clear c4
      have H':=Aside0.mk H
      clear H
      have p242:0≤(x4_1:Int):=of_decide_eq_true (by first|(with_reducible assumption)|assumption)
      have q242:x4_1<(l0.length:Int):=of_decide_eq_true (by first|(with_reducible assumption)|assumption)
      obtain⟨ad242,e242,hx242_0⟩:=Kd.Zr HR0.out x4_1 p242 q242
      cases e242
      replace p242:=eq_true p242
      replace q242:=eq_true q242
      go_wp2
      go_roundg k1
      case measure=>have:=HK1.out;omega
      case rel=>exact⟨(IntKind.u64.wrap ((IntKind.u64.wrap (x3_1 * 128))+(IntKind.u64.wrap (Int.tmod (rd l0 x4_1) 128)))),(wrap64 (x4_1-1)),qR,qR,H',⟨by have:=HK1.out;omega⟩,by repeat(first|exact Drawn0.refl _|apply Drawn0.step)⟩
     ·rw[if_neg c4] at H
      exact absurd H (by simp)
    ·rw[if_neg c3] at H
     exact absurd H (by simp)
   ·rw[if_neg c2] at H
    have c2b0:decide (0≤x4_1)=false:=decide_eq_false c2
    clear c2
    by_cases c5:(Int.tmod x3_1 2)=1
    ·rw[if_pos c5] at H
     have c5b0:((Int.tmod x3_1 2)==1)=true:=beq_iff_eq.mpr c5
     have c5b1:((Int.tmod x3_1 2) != 1)=false:=bne_eq_false_iff_eq.mpr c5
     clear c5
     obtain rfl:=Option.some.inj H
     go_wp2
     go_ret
     exact⟨qR,by repeat(first|exact Drawn0.refl _|apply Drawn0.step)⟩
    ·rw[if_neg c5] at H
     have c5b0:((Int.tmod x3_1 2)==1)=false:=beq_eq_false_iff_ne.mpr c5
     have c5b1:((Int.tmod x3_1 2) != 1)=true:=bne_iff_ne.mpr c5
     obtain rfl:=Option.some.inj H
     go_wp2
     go_ret
     exact⟨qR,by repeat(first|exact Drawn0.refl _|apply Drawn0.step)⟩
mutual
def newelref08_Get.j0:Nat→List Int→Int→Bool→Option (Int×Int×Int)
 |0,_,_,_=>none
 |k+1,x0,x1,x14=>if x14=true then (some (0,0,80)) else (newelref08_Get.l0 k x0 x1 0)
def newelref08_Get.l0:Nat→List Int→Int→Int→Option (Int×Int×Int)
 |0,_,_,_=>none
 |k+1,x0,x1,x5=>if (wrap64 (x1+x5))<(x0.length:Int) then (if 0≤(wrap64 (x1+x5)) then (if x5=9 then (newelref08_Get.j2 k x0 x1 x5 (rd x0 (wrap64 (x1+x5))) (decide ((rd x0 (wrap64 (x1+x5)))>1))) else (newelref08_Get.j2 k x0 x1 x5 (rd x0 (wrap64 (x1+x5))) false)) else (none)) else (some (0,0,81))
def newelref08_Get.j2:Nat→List Int→Int→Int→Int→Bool→Option (Int×Int×Int)
 |0,_,_,_,_,_=>none
 |k+1,x0,x1,x5,x6,x35=>if x35=true then (some (0,0,82)) else (if x6≥128 then (newelref08_Get.l0 k x0 x1 (wrap64 (x5+1))) else (if x5>0 then (if x6=0 then (some (0,0,82)) else (if 0≤x1 then (if x1≤(wrap64 ((wrap64 (x1+x5))+1)) then (if (wrap64 ((wrap64 (x1+x5))+1))≤(x0.length:Int) then ((newelref08_value.f k ((x0.take ((wrap64 ((wrap64 (x1+x5))+1)):Int).toNat).drop (x1:Int).toNat)).bind fun t246=>(some (t246,wrap64 ((wrap64 (x1+x5))+1),0))) else (none)) else (none)) else (none))) else (if 0≤x1 then (if x1≤(wrap64 ((wrap64 (x1+x5))+1)) then (if (wrap64 ((wrap64 (x1+x5))+1))≤(x0.length:Int) then ((newelref08_value.f k ((x0.take ((wrap64 ((wrap64 (x1+x5))+1)):Int).toNat).drop (x1:Int).toNat)).bind fun t248=>(some (t248,wrap64 ((wrap64 (x1+x5))+1),0))) else (none)) else (none)) else (none))))
end
def newelref08_Get.f (k:Nat) (l0:List Int) (a1:Int):Option (Int×Int×Int):=if a1<0 then (newelref08_Get.j0 k l0 a1 true) else (newelref08_Get.j0 k l0 a1 (decide (a1>(l0.length:Int))))
theorem newelref08_Get.Zl:∀ k,(∀ y0 y1 y2,LeO (newelref08_Get.j0 k y0 y1 y2) (newelref08_Get.j0 (k+1) y0 y1 y2))∧(∀ y0 y1 y2,LeO (newelref08_Get.l0 k y0 y1 y2) (newelref08_Get.l0 (k+1) y0 y1 y2))∧(∀ y0 y1 y2 y3 y4,LeO (newelref08_Get.j2 k y0 y1 y2 y3 y4) (newelref08_Get.j2 (k+1) y0 y1 y2 y3 y4))
 |0=>⟨fun _ _ _ r h=>by simp[newelref08_Get.j0] at h,fun _ _ _ r h=>by simp[newelref08_Get.l0] at h,fun _ _ _ _ _ r h=>by simp[newelref08_Get.j2] at h⟩
 |k+1=>by
  obtain⟨ih0,ih1,ih2⟩:=newelref08_Get.Zl k
  refine⟨?_, ?_, ?_⟩
  ·intro y0 y1 y2
   unfold newelref08_Get.j0
   repeat' first
   |(with_reducible exact ih0 _ _ _)
   |(with_reducible exact ih1 _ _ _)
   |(with_reducible exact ih2 _ _ _ _ _)
   |(with_reducible exact newelref08_value.mono _ _)
   |(with_reducible exact LeO.refl _)
   |(with_reducible exact LeO.none _)
   |(with_reducible refine LeO.ite ?_ ?_)
   |(with_reducible refine LeO.bind ?_ (fun _=>?_))
   |exact ih0 _ _ _
   |exact ih1 _ _ _
   |exact ih2 _ _ _ _ _
   |exact newelref08_value.mono _ _
   |exact LeO.none _
   |refine LeO.ite ?_ ?_
   |refine LeO.bind ?_ (fun _=>?_)
  ·intro y0 y1 y2
   unfold newelref08_Get.l0
   repeat' first
   |(with_reducible exact ih0 _ _ _)
   |(with_reducible exact ih1 _ _ _)
   |(with_reducible exact ih2 _ _ _ _ _)
   |(with_reducible exact newelref08_value.mono _ _)
   |(with_reducible exact LeO.refl _)
   |(with_reducible exact LeO.none _)
   |(with_reducible refine LeO.ite ?_ ?_)
   |(with_reducible refine LeO.bind ?_ (fun _=>?_))
   |exact ih0 _ _ _
   |exact ih1 _ _ _
   |exact ih2 _ _ _ _ _
   |exact newelref08_value.mono _ _
   |exact LeO.none _
   |refine LeO.ite ?_ ?_
   |refine LeO.bind ?_ (fun _=>?_)
  ·intro y0 y1 y2 y3 y4
   unfold newelref08_Get.j2
   repeat' first
   |(with_reducible exact ih0 _ _ _)
   |(with_reducible exact ih1 _ _ _)
   |(with_reducible exact ih2 _ _ _ _ _)
   |(with_reducible exact newelref08_value.mono _ _)
   |(with_reducible exact LeO.refl _)
   |(with_reducible exact LeO.none _)
   |(with_reducible refine LeO.ite ?_ ?_)
   |(with_reducible refine LeO.bind ?_ (fun _=>?_))
   |exact ih0 _ _ _
   |exact ih1 _ _ _
   |exact ih2 _ _ _ _ _
   |exact newelref08_value.mono _ _
   |exact LeO.none _
   |refine LeO.ite ?_ ?_
   |refine LeO.bind ?_ (fun _=>?_)
theorem newelref08_Get.mono:∀ a0 a1 k,LeO (newelref08_Get.f k a0 a1) (newelref08_Get.f (k+1) a0 a1):=by
 intro a0 a1 k
 obtain⟨ih0,ih1,ih2⟩:=newelref08_Get.Zl k
 unfold newelref08_Get.f
 repeat' first
   |(with_reducible exact ih0 _ _ _)
   |(with_reducible exact ih1 _ _ _)
   |(with_reducible exact ih2 _ _ _ _ _)
   |(with_reducible exact newelref08_value.mono _ _)
   |(with_reducible exact LeO.refl _)
   |(with_reducible exact LeO.none _)
   |(with_reducible refine LeO.ite ?_ ?_)
   |(with_reducible refine LeO.bind ?_ (fun _=>?_))
   |exact ih0 _ _ _
   |exact ih1 _ _ _
   |exact ih2 _ _ _ _ _
   |exact newelref08_value.mono _ _
   |exact LeO.none _
   |refine LeO.ite ?_ ?_
   |refine LeO.bind ?_ (fun _=>?_)
set_option maxHeartbeats 8000000 in
set_option maxRecDepth 100000 in
theorem newelref08_Get.calls (k:Nat) (A0:Option Addr) (c0:Nat) (l0:List Int) (a1:Int) (r1:Int) (r2:Int) (r3:Int) (w:World) (hr0:Kd.C (Kd.int .u8) w A0 l0.length l0) (hc0:l0.length≤c0) (h:newelref08_Get.f k l0 a1=some (r1,r2,r3)):
  Calls Tryd.prog 39 #[.slice A0 l0.length c0,.int .i64 a1] w fun e w'=>e = .returned (.agg #[.int .i64 r1,.int .i64 r2,.int .i64 r3])∧Below w.heap.size w w':=by
 have hu75:=Tryd.underlying75
 have HR0:=Aside0.mk hr0
 have HC0:=Aside0.mk hc0
 clear hr0 hc0
 have HB:=Aside0.mk (Below.refl w.heap.size w)
 have H:(if a1<0 then (newelref08_Get.j0 k l0 a1 true) else (newelref08_Get.j0 k l0 a1 (decide (a1>(l0.length:Int)))))=some (r1,r2,r3):=h
 clear h
 have HC3:=Aside0.mk H
 clear H
 go_enter Tryd.func39,Tryd.ntmps39
 go_upto_region 1 with(first|((with_reducible refine Qz (N:=4) rfl ?_);(try(refine Zw (by rfl) ?_;dsimp only));refine Q7 ?hg (N:=4) ?hd (cs:=#[.int .i64 0,.int .i64 0,.int .i64 0]) (t:=75) ?hr ?_;(case hd=>rfl);(case hg=>rfl);(case hr=>first|(go_simp;done)|(go_simp;rfl));intro gb243 hg w4 hbox hb;have n0_:=Aside0.mk (Qr (by repeat(first|(with_reducible first|exact HB.out|apply Qe|apply Qa|apply Qf)|exact HB.out)) hb);have n1_:=Aside0.mk (hbox);have n2_:=Aside0.mk ((by rw[hg];exact(Qj (by repeat(first|(with_reducible first|exact HB.out|apply Qe|apply Qa|apply Qf)|exact HB.out))):w.heap.size≤gb243));have n3_:=Aside0.mk ((by rw[hg];exact(Qj (by repeat(first|(with_reducible first|exact HB.out|apply Qe|apply Qa|apply Qf)|exact HB.out))):w.heap.size≤gb243));clear HB;have HB:=n0_;have BK243:=n1_;have GW243:=n2_;have GE243:=n3_;clear n0_ n1_ n2_ n3_;clear hb hbox hg))
 (try simp only[Act.put,qS])
 go_cut [14] (fun v14 wc=>∃ (kq:Nat) (x14_2:Bool),v14 = .bool x14_2∧Aside0 (newelref08_Get.j0 kq l0 a1 x14_2=some (r1,r2,r3))∧Aside0 (kq≤k)∧Aside0 (wc.heap[gb243]?=some (.cells #[.int .i64 0,.int .i64 0,.int .i64 0] 75 (0,0)))∧Aside0 (Below w.heap.size w wc))
 case first=>
  have H:=HC3.out
  clear HC3
  by_cases c5:a1<0
  ·rw[if_pos c5] at H
   have c5b0:decide (a1<0)=true:=decide_eq_true c5
   clear c5
   (first|rw[c5b0]|(simp only[Zu,Z4];rw[c5b0])|skip)
   have H':=Aside0.mk H
   clear H
   go_wp2
   go_meet
   case rel=>exact⟨_,(true),qR,H',⟨by first|omega|exact Nat.le_refl _⟩,⟨by(with_reducible repeat first|apply Qb|apply Qd|apply Qc);exact BK243.out⟩,⟨by repeat(first|(with_reducible first|exact HB.out|apply Qe|apply Qa|apply Qf|refine Qg ?_ GE243.out)|exact HB.out)⟩⟩
  ·rw[if_neg c5] at H
   have c5b0:decide (a1<0)=false:=decide_eq_false c5
   clear c5
   (first|rw[c5b0]|(simp only[Zu,Z4];rw[c5b0])|skip)
   have H':=Aside0.mk H
   clear H
   go_wp2
   go_meet
   case rel=>exact⟨_,(decide (a1>(l0.length:Int))),qR,H',⟨by first|omega|exact Nat.le_refl _⟩,⟨by(with_reducible repeat first|apply Qb|apply Qd|apply Qc);exact BK243.out⟩,⟨by repeat(first|(with_reducible first|exact HB.out|apply Qe|apply Qa|apply Qf|refine Qg ?_ GE243.out)|exact HB.out)⟩⟩
 case rest=>
  clear HC3
  try clear p2
  try clear c3
  try clear c5
  try clear c5b0
  obtain⟨kq,x14_2,rfl,HA,HJ2,BK243,HB⟩:=hcut
  cases kq with
  |zero=>exact absurd HA.out (by simp[newelref08_Get.j0])
  |succ kj2=>
   have H:=HA.out
   clear HA
   simp only[newelref08_Get.j0] at H
   by_cases c6:x14_2=true
   ·subst c6
    have H1:(some (0,0,80))=some (r1,r2,r3):=by rw[if_pos rfl] at H;exact H
    clear H
    have H:=H1
    clear H1
    simp only[Option.some.injEq,Prod.mk.injEq] at H
    obtain⟨rfl,rfl,rfl⟩:=H
    obtain⟨hcz7_0,hcz7_1,hcz7_2,hfz7_0,hfz7_1,hfz7_2⟩:=qD3 BK243.out
    go_wp2
    refine bodyPost_ret (results_cell_row rfl _ _ gb243 75 #[.int .i64 0,.int .i64 0,.int .i64 80] (0,0) _ rfl (by(with_reducible repeat first|apply Qb|apply Qd|apply Qc);refine Qk (cs:=#[.int .i64 0,.int .i64 0,.int .i64 0]) ?_ 2 _ rfl;(with_reducible repeat first|apply Qb|apply Qd|apply Qc);refine Qk (cs:=#[.int .i64 0,.int .i64 0,.int .i64 0]) ?_ 1 _ rfl;(with_reducible repeat first|apply Qb|apply Qd|apply Qc);refine Qk (cs:=#[.int .i64 0,.int .i64 0,.int .i64 0]) ?_ 0 _ rfl;(with_reducible repeat first|apply Qb|apply Qd|apply Qc);exact BK243.out) Tryd.underlying75 rfl kr) rfl ?_
    exact⟨by first|rfl|(simp[Qo,Qn] <;> rfl)|(simp[*,Qo,Qn] <;> rfl),by repeat(first|(with_reducible first|exact HB.out|apply Qe|apply Qa|apply Qf|refine Qg ?_ GE243.out)|exact HB.out)⟩
   ·replace c6:=Bool.eq_false_iff.mpr c6
    subst c6
    have H1:(newelref08_Get.l0 kj2 l0 a1 0)=some (r1,r2,r3):=by rw[if_neg (show ¬ (false=true) by decide)] at H;exact H
    clear H
    have H:=H1
    clear H1
    have H':=Aside0.mk H
    clear H
    go_wp2
    go_loopg [5] kj2 (fun kq v5 w'=>∃ (x5_2:Int) (x244000_2:Int) (x244001_2:Int) (x244002_2:Int),v5 = .int .i64 x5_2∧Aside0 (newelref08_Get.l0 kq l0 a1 x5_2=some (r1,r2,r3))∧Aside0 (kq≤kj2)∧Aside0 (w'.heap[gb243]?=some (.cells #[.int .i64 x244000_2,.int .i64 x244001_2,.int .i64 x244002_2] 75 (0,0)))∧Aside0 (Below w.heap.size w w'))
    case atStart=>exact⟨(0),(0),(0),(0),qR,H',⟨Nat.le_refl _⟩,⟨by(with_reducible repeat first|apply Qb|apply Qd|apply Qc);exact BK243.out⟩,⟨by repeat(first|(with_reducible first|exact HB.out|apply Qe|apply Qa|apply Qf|refine Qg ?_ GE243.out)|exact HB.out)⟩⟩
    case round=>
     clear H'
     try clear p2
     try clear c3
     try clear c5
     try clear c5b0
     try clear c6
     try clear hcz7_0
     try clear hcz7_1
     try clear hcz7_2
     try clear hfz7_0
     try clear hfz7_1
     try clear hfz7_2
     try clear p2
     obtain⟨x5_2,x244000_2,x244001_2,x244002_2,rfl,HA,HK2,BK243,HB⟩:=hrel
     cases gk with
     |zero=>exact absurd HA.out (by simp[newelref08_Get.l0])
     |succ k2=>
      have H:=HA.out
      clear HA
      simp only[newelref08_Get.l0] at H
      by_cases c8:(wrap64 (a1+x5_2))<(l0.length:Int)
      ·rw[if_pos c8] at H
       have c8b0:decide ((wrap64 (a1+x5_2))<(l0.length:Int))=true:=decide_eq_true c8
       clear c8
       obtain⟨ji9,hji9⟩:∃ j_:Int,(wrap64 (a1+x5_2))=j_:=⟨_,rfl⟩
       replace H:(if 0≤(ji9) then (if x5_2=9 then (newelref08_Get.j2 k2 l0 a1 x5_2 (rd l0 (ji9)) (decide ((rd l0 (ji9))>1))) else (newelref08_Get.j2 k2 l0 a1 x5_2 (rd l0 (ji9)) false)) else (none))=some (r1,r2,r3):=by first|(rw[hji9] at H;exact H)|(simp only[hji9] at H ⊢;exact H)
       (try rw[hji9] at c8b0)
       have hji9w:(IntKind.i64.wrap (a1+x5_2))=ji9:=(Zu _).trans hji9
       by_cases c10:0≤(ji9)
       ·rw[if_pos c10] at H
        have c10b0:decide (0≤(ji9))=true:=decide_eq_true c10
        clear c10
        have HC11:=Aside0.mk H
        clear H
        have p244:0≤((ji9):Int):=of_decide_eq_true (by first|(with_reducible assumption)|assumption)
        have q244:(ji9)<(l0.length:Int):=of_decide_eq_true (by first|(with_reducible assumption)|assumption)
        obtain⟨ad244,e244,hx244_0⟩:=Kd.Zr HR0.out (ji9) p244 q244
        cases e244
        replace hx244_0:=(HB.out.cell (World.block_lt_of_cell? w _ hx244_0)).trans hx244_0
        replace p244:=eq_true p244
        replace q244:=eq_true q244
        go_upto_region 7 with(fail)
        go_cut [35] (fun v35 wc=>∃ (kq:Nat) (x35_10:Bool),v35 = .bool x35_10∧Aside0 (newelref08_Get.j2 kq l0 a1 x5_2 (rd l0 (ji9)) x35_10=some (r1,r2,r3))∧Aside0 (kq≤k2)∧Aside0 (wc.heap[gb243]?=some (.cells #[.int .i64 x244000_2,.int .i64 x244001_2,.int .i64 x244002_2] 75 (0,0)))∧Aside0 (Below w.heap.size w wc))
        case first=>
         have H:=HC11.out
         clear HC11
         by_cases c12:x5_2=9
         ·rw[if_pos c12] at H
          have c12b0:(x5_2==9)=true:=beq_iff_eq.mpr c12
          have c12b1:(x5_2 != 9)=false:=bne_eq_false_iff_eq.mpr c12
          clear c12
          (first|rw[c12b0]|(simp only[Zu,Z4];rw[c12b0])|skip)
          have H':=Aside0.mk H
          clear H
          go_wp2
          go_meet
          case rel=>exact⟨_,(decide ((rd l0 (ji9))>1)),(by first|rfl|(simp;done)|(simp only[← hji9] <;> (first|rfl|simp))|(simp[*];done)),H',⟨by have:=HJ2.out;have:=HK2.out;first|omega|exact Nat.le_refl _⟩,⟨by(with_reducible repeat first|apply Qb|apply Qd|apply Qc);exact BK243.out⟩,⟨by repeat(first|(with_reducible first|exact HB.out|apply Qe|apply Qa|apply Qf|refine Qg ?_ GE243.out)|exact HB.out)⟩⟩
         ·rw[if_neg c12] at H
          have c12b0:(x5_2==9)=false:=beq_eq_false_iff_ne.mpr c12
          have c12b1:(x5_2 != 9)=true:=bne_iff_ne.mpr c12
          (first|rw[c12b0]|(simp only[Zu,Z4];rw[c12b0])|skip)
          have H':=Aside0.mk H
          clear H
          go_wp2
          go_meet
          case rel=>exact⟨_,(false),qR,H',⟨by have:=HJ2.out;have:=HK2.out;first|omega|exact Nat.le_refl _⟩,⟨by(with_reducible repeat first|apply Qb|apply Qd|apply Qc);exact BK243.out⟩,⟨by repeat(first|(with_reducible first|exact HB.out|apply Qe|apply Qa|apply Qf|refine Qg ?_ GE243.out)|exact HB.out)⟩⟩
        case rest=>
         clear HC11
         try clear c1
         try clear p2
         try clear q2
         try clear hx2
         try clear c3
         try clear c5
         try clear c5b0
         try clear c6
         try clear p6
         try clear c8
         try clear c8b0
         try clear c10
         try clear c10b0
         try clear c12
         try clear c12b0
         try clear c12b1
         try clear hcz7_0
         try clear hcz7_1
         try clear hcz7_2
         try clear hfz7_0
         try clear hfz7_1
         try clear hfz7_2
         try clear hx244_0
         try clear p2
         try clear p244
         try clear q244
         obtain⟨kq,x35_10,rfl,HA,HJ10,BK243,HB⟩:=hcut
         cases kq with
         |zero=>exact absurd HA.out (by simp[newelref08_Get.j2])
         |succ kj10=>
          have H:=HA.out
          clear HA
          simp only[newelref08_Get.j2] at H
          by_cases c13:x35_10=true
          ·subst c13
           have H1:(some (0,0,82))=some (r1,r2,r3):=by rw[if_pos rfl] at H;exact H
           clear H
           have H:=H1
           clear H1
           simp only[Option.some.injEq,Prod.mk.injEq] at H
           obtain⟨rfl,rfl,rfl⟩:=H
           obtain⟨hcz14_0,hcz14_1,hcz14_2,hfz14_0,hfz14_1,hfz14_2⟩:=qD3 BK243.out
           go_wp2
           refine bodyPost_ret (results_cell_row rfl _ _ gb243 75 #[.int .i64 0,.int .i64 0,.int .i64 82] (0,0) _ rfl (by(with_reducible repeat first|apply Qb|apply Qd|apply Qc);refine Qk (cs:=#[.int .i64 0,.int .i64 0,.int .i64 x244002_2]) ?_ 2 _ rfl;(with_reducible repeat first|apply Qb|apply Qd|apply Qc);refine Qk (cs:=#[.int .i64 0,.int .i64 x244001_2,.int .i64 x244002_2]) ?_ 1 _ rfl;(with_reducible repeat first|apply Qb|apply Qd|apply Qc);refine Qk (cs:=#[.int .i64 x244000_2,.int .i64 x244001_2,.int .i64 x244002_2]) ?_ 0 _ rfl;(with_reducible repeat first|apply Qb|apply Qd|apply Qc);exact BK243.out) Tryd.underlying75 rfl kr) rfl ?_
           exact⟨by first|rfl|(simp[Qo,Qn] <;> rfl)|(simp only[← hji9];first|rfl|(simp[Qo,Qn] <;> rfl))|(simp[*,Qo,Qn] <;> rfl),by repeat(first|(with_reducible first|exact HB.out|apply Qe|apply Qa|apply Qf|refine Qg ?_ GE243.out)|exact HB.out)⟩
          ·replace c13:=Bool.eq_false_iff.mpr c13
           subst c13
           have H1:(if (rd l0 (ji9))≥128 then (newelref08_Get.l0 kj10 l0 a1 (wrap64 (x5_2+1))) else (if x5_2>0 then (if (rd l0 (ji9))=0 then (some (0,0,82)) else (if 0≤a1 then (if a1≤(wrap64 ((wrap64 (a1+x5_2))+1)) then (if (wrap64 ((wrap64 (a1+x5_2))+1))≤(l0.length:Int) then ((newelref08_value.f kj10 ((l0.take ((wrap64 ((wrap64 (a1+x5_2))+1)):Int).toNat).drop (a1:Int).toNat)).bind fun t246=>(some (t246,wrap64 ((wrap64 (a1+x5_2))+1),0))) else (none)) else (none)) else (none))) else (if 0≤a1 then (if a1≤(wrap64 ((wrap64 (a1+x5_2))+1)) then (if (wrap64 ((wrap64 (a1+x5_2))+1))≤(l0.length:Int) then ((newelref08_value.f kj10 ((l0.take ((wrap64 ((wrap64 (a1+x5_2))+1)):Int).toNat).drop (a1:Int).toNat)).bind fun t248=>(some (t248,wrap64 ((wrap64 (a1+x5_2))+1),0))) else (none)) else (none)) else (none))))=some (r1,r2,r3):=by rw[if_neg (show ¬ (false=true) by decide)] at H;exact H
           clear H
           have H:=H1
           clear H1
           by_cases c15:(rd l0 (ji9))≥128
           ·rw[if_pos c15] at H
            have c15b0:decide (128≤(rd l0 (ji9)))=true:=decide_eq_true c15
            clear c15
            have H':=Aside0.mk H
            clear H
            go_wp2
            go_roundg kj10
            case measure=>have:=HJ2.out;have:=HK2.out;have:=HJ10.out;omega
            case rel=>exact⟨(wrap64 (x5_2+1)),(x244000_2),(x244001_2),(x244002_2),qR,H',⟨by have:=HJ2.out;have:=HK2.out;have:=HJ10.out;omega⟩,⟨by(with_reducible repeat first|apply Qb|apply Qd|apply Qc);exact BK243.out⟩,⟨by repeat(first|(with_reducible first|exact HB.out|apply Qe|apply Qa|apply Qf|refine Qg ?_ GE243.out)|exact HB.out)⟩⟩
           ·rw[if_neg c15] at H
            have c15b0:decide (128≤(rd l0 (ji9)))=false:=decide_eq_false c15
            clear c15
            by_cases c16:x5_2>0
            ·rw[if_pos c16] at H
             have c16b0:decide (0<x5_2)=true:=decide_eq_true c16
             clear c16
             by_cases c17:(rd l0 (ji9))=0
             ·rw[if_pos c17] at H
              have c17b0:((rd l0 (ji9))==0)=true:=beq_iff_eq.mpr c17
              have c17b1:((rd l0 (ji9)) != 0)=false:=bne_eq_false_iff_eq.mpr c17
              clear c17
              simp only[Option.some.injEq,Prod.mk.injEq] at H
              obtain⟨rfl,rfl,rfl⟩:=H
              obtain⟨hcz18_0,hcz18_1,hcz18_2,hfz18_0,hfz18_1,hfz18_2⟩:=qD3 BK243.out
              go_wp2
              refine bodyPost_ret (results_cell_row rfl _ _ gb243 75 #[.int .i64 0,.int .i64 0,.int .i64 82] (0,0) _ rfl (by(with_reducible repeat first|apply Qb|apply Qd|apply Qc);refine Qk (cs:=#[.int .i64 0,.int .i64 0,.int .i64 x244002_2]) ?_ 2 _ rfl;(with_reducible repeat first|apply Qb|apply Qd|apply Qc);refine Qk (cs:=#[.int .i64 0,.int .i64 x244001_2,.int .i64 x244002_2]) ?_ 1 _ rfl;(with_reducible repeat first|apply Qb|apply Qd|apply Qc);refine Qk (cs:=#[.int .i64 x244000_2,.int .i64 x244001_2,.int .i64 x244002_2]) ?_ 0 _ rfl;(with_reducible repeat first|apply Qb|apply Qd|apply Qc);exact BK243.out) Tryd.underlying75 rfl kr) rfl ?_
              exact⟨by first|rfl|(simp[Qo,Qn] <;> rfl)|(simp only[← hji9];first|rfl|(simp[Qo,Qn] <;> rfl))|(simp[*,Qo,Qn] <;> rfl),by repeat(first|(with_reducible first|exact HB.out|apply Qe|apply Qa|apply Qf|refine Qg ?_ GE243.out)|exact HB.out)⟩
             ·rw[if_neg c17] at H
              have c17b0:((rd l0 (ji9))==0)=false:=beq_eq_false_iff_ne.mpr c17
              have c17b1:((rd l0 (ji9)) != 0)=true:=bne_iff_ne.mpr c17
              by_cases c19:0≤a1
              ·rw[if_pos c19] at H
               have c19b0:=eq_true c19
               have c19b1:decide (0≤a1)=true:=decide_eq_true c19
               clear c19
               by_cases c20:a1≤(wrap64 ((wrap64 (a1+x5_2))+1))
               ·rw[if_pos c20] at H
                have c20b0:=eq_true c20
                have c20b1:decide (a1≤(wrap64 ((wrap64 (a1+x5_2))+1)))=true:=decide_eq_true c20
                by_cases c21:(wrap64 ((wrap64 (a1+x5_2))+1))≤(l0.length:Int)
                ·rw[if_pos c21] at H
                 have c21b0:=eq_true c21
                 have c21b1:decide ((wrap64 ((wrap64 (a1+x5_2))+1))≤(l0.length:Int))=true:=decide_eq_true c21
                 replace H:=Option.bind_eq_some_iff.mp H
                 obtain⟨t246,A220,H⟩:=H
                 replace H:(some (t246,wrap64 ((wrap64 (a1+x5_2))+1),0))=some (r1,r2,r3):=H
                 have A22:=Aside0.mk A220
                 clear A220
                 simp only[Option.some.injEq,Prod.mk.injEq] at H
                 obtain⟨rfl,rfl,rfl⟩:=H
                 obtain⟨i023,hi023,_,hsz23,_⟩:=info_parts Zx
                 obtain⟨A23,hcut23,hA23,hC23⟩:=J5 (P:=Tryd.prog) (Value.int .u8) 0 22 5 .i64 .i64 Tryd.underlying22 hi023 hsz23 (some ad244) c0 l0 a1 (wrap64 ((wrap64 (a1+x5_2))+1)) (of_decide_eq_true (by first|(with_reducible assumption)|assumption)) (by first|omega|exact of_decide_eq_true (by first|(with_reducible assumption)|assumption)) (of_decide_eq_true (by first|(with_reducible assumption)|assumption)) HC0.out
                 have HR245:=Aside0.mk (Kd.Z8 (h1:=fun _=>rfl) (hA23 _ (Kd.Zv HR0.out)))
                 have HC245:=Aside0.mk hC23
                 clear hA23 hC23 hi023 hsz23
                 try subst hji9
                 go_wp2_with (first|((with_reducible refine Qv (f:=46) rfl ?_);refine Ze (some 53) rfl rfl Tryd.func46 kr rfl #[.slice A23 ((l0.take ((wrap64 ((wrap64 (a1+x5_2))+1)):Int).toNat).drop (a1:Int).toNat).length (c0-a1.toNat)] rfl (by(try simp only[List.map_toArray,List.map_cons,List.map_nil]);first|done|(rw[show((l0.take ((wrap64 ((wrap64 (a1+x5_2))+1)):Int).toNat).drop (a1:Int).toNat).length=((wrap64 ((wrap64 (a1+x5_2))+1)).toNat-a1.toNat) from(by rw[List.length_drop,List.length_take];have h_:((wrap64 ((wrap64 (a1+x5_2))+1)):Int)≤(l0.length:Int):=of_decide_eq_true (by first|(with_reducible assumption)|assumption);omega)] <;> rfl)|rfl|(simp only[List.length_drop,List.length_take];rfl)) ?_;(with_reducible refine(newelref08_value.calls kj10 _ _ ((l0.take ((wrap64 ((wrap64 (a1+x5_2))+1)):Int).toNat).drop (a1:Int).toNat) t246 _ ?side1 ?side2 A22.out).mono ?_);(case side1=>repeat(first|exact(Kd.Zb HR245.out HB.out)|(with_reducible refine Kd.Zc ?_ _)|(with_reducible refine Kd.Za ?_ _)|(with_reducible refine Kd.Zh ?_)));(case side2=>exact HC245.out);rintro e w' ⟨rfl,⟨nd,rfl⟩⟩;refine⟨_,rfl, ?_⟩;(try(rw[Jx wc];generalize hq_:World.drewN wc _=wc;have n0_:Aside0 (wc.heap[gb243]?=some (.cells #[.int .i64 x244000_2,.int .i64 x244001_2,.int .i64 x244002_2] 75 (0,0))):=⟨by rw[← hq_];exact(by(with_reducible repeat first|apply Qb|apply Qd|apply Qc);exact BK243.out)⟩;have n1_:Aside0 (Below w.heap.size w wc):=⟨by rw[← hq_];exact(by repeat(first|(with_reducible first|exact HB.out|apply Qe|apply Qa|apply Qf|refine Qg ?_ GE243.out)|exact HB.out))⟩;clear BK243 HB hq_;have BK243:=n0_;have HB:=n1_;clear n0_ n1_));obtain⟨hcz24_0,hcz24_1,hcz24_2,hfz24_0,hfz24_1,hfz24_2⟩:=qD3 BK243.out))
                 refine bodyPost_ret (results_cell_row rfl _ _ gb243 75 #[.int .i64 t246,.int .i64 (wrap64 ((wrap64 (a1+x5_2))+1)),.int .i64 0] (0,0) _ rfl (by(with_reducible repeat first|apply Qb|apply Qd|apply Qc);refine Qk (cs:=#[.int .i64 t246,.int .i64 (wrap64 ((wrap64 (a1+x5_2))+1)),.int .i64 x244002_2]) ?_ 2 _ rfl;(with_reducible repeat first|apply Qb|apply Qd|apply Qc);refine Qk (cs:=#[.int .i64 t246,.int .i64 x244001_2,.int .i64 x244002_2]) ?_ 1 _ rfl;(with_reducible repeat first|apply Qb|apply Qd|apply Qc);refine Qk (cs:=#[.int .i64 x244000_2,.int .i64 x244001_2,.int .i64 x244002_2]) ?_ 0 _ rfl;(with_reducible repeat first|apply Qb|apply Qd|apply Qc);exact BK243.out) Tryd.underlying75 rfl kr) rfl ?_
                 exact⟨by first|rfl|(simp[Qo,Qn] <;> rfl)|(simp only[← hji9];first|rfl|(simp[Qo,Qn] <;> rfl))|(simp[*,Qo,Qn] <;> rfl),by repeat(first|(with_reducible first|exact HB.out|apply Qe|apply Qa|apply Qf|refine Qg ?_ GE243.out)|exact HB.out)⟩
                ·rw[if_neg c21] at H
                 exact absurd H (by simp)
               ·rw[if_neg c20] at H
                exact absurd H (by simp)
              ·rw[if_neg c19] at H
               exact absurd H (by simp)
            ·rw[if_neg c16] at H
             have c16b0:decide (0<x5_2)=false:=decide_eq_false c16
             clear c16
             by_cases c25:0≤a1
             ·rw[if_pos c25] at H
              have c25b0:=eq_true c25
              have c25b1:decide (0≤a1)=true:=decide_eq_true c25
              clear c25
              by_cases c26:a1≤(wrap64 ((wrap64 (a1+x5_2))+1))
              ·rw[if_pos c26] at H
               have c26b0:=eq_true c26
               have c26b1:decide (a1≤(wrap64 ((wrap64 (a1+x5_2))+1)))=true:=decide_eq_true c26
               by_cases c27:(wrap64 ((wrap64 (a1+x5_2))+1))≤(l0.length:Int)
               ·rw[if_pos c27] at H
                have c27b0:=eq_true c27
                have c27b1:decide ((wrap64 ((wrap64 (a1+x5_2))+1))≤(l0.length:Int))=true:=decide_eq_true c27
                replace H:=Option.bind_eq_some_iff.mp H
                obtain⟨t248,A280,H⟩:=H
                replace H:(some (t248,wrap64 ((wrap64 (a1+x5_2))+1),0))=some (r1,r2,r3):=H
                have A28:=Aside0.mk A280
                clear A280
                simp only[Option.some.injEq,Prod.mk.injEq] at H
                obtain⟨rfl,rfl,rfl⟩:=H
                obtain⟨i029,hi029,_,hsz29,_⟩:=info_parts Zx
                obtain⟨A29,hcut29,hA29,hC29⟩:=J5 (P:=Tryd.prog) (Value.int .u8) 0 22 5 .i64 .i64 Tryd.underlying22 hi029 hsz29 (some ad244) c0 l0 a1 (wrap64 ((wrap64 (a1+x5_2))+1)) (of_decide_eq_true (by first|(with_reducible assumption)|assumption)) (by first|omega|exact of_decide_eq_true (by first|(with_reducible assumption)|assumption)) (of_decide_eq_true (by first|(with_reducible assumption)|assumption)) HC0.out
                have HR247:=Aside0.mk (Kd.Z8 (h1:=fun _=>rfl) (hA29 _ (Kd.Zv HR0.out)))
                have HC247:=Aside0.mk hC29
                clear hA29 hC29 hi029 hsz29
                try subst hji9
                go_wp2_with (first|((with_reducible refine Qv (f:=46) rfl ?_);refine Ze (some 53) rfl rfl Tryd.func46 kr rfl #[.slice A29 ((l0.take ((wrap64 ((wrap64 (a1+x5_2))+1)):Int).toNat).drop (a1:Int).toNat).length (c0-a1.toNat)] rfl (by(try simp only[List.map_toArray,List.map_cons,List.map_nil]);first|done|(rw[show((l0.take ((wrap64 ((wrap64 (a1+x5_2))+1)):Int).toNat).drop (a1:Int).toNat).length=((wrap64 ((wrap64 (a1+x5_2))+1)).toNat-a1.toNat) from(by rw[List.length_drop,List.length_take];have h_:((wrap64 ((wrap64 (a1+x5_2))+1)):Int)≤(l0.length:Int):=of_decide_eq_true (by first|(with_reducible assumption)|assumption);omega)] <;> rfl)|rfl|(simp only[List.length_drop,List.length_take];rfl)) ?_;(with_reducible refine(newelref08_value.calls kj10 _ _ ((l0.take ((wrap64 ((wrap64 (a1+x5_2))+1)):Int).toNat).drop (a1:Int).toNat) t248 _ ?side1 ?side2 A28.out).mono ?_);(case side1=>repeat(first|exact(Kd.Zb HR247.out HB.out)|(with_reducible refine Kd.Zc ?_ _)|(with_reducible refine Kd.Za ?_ _)|(with_reducible refine Kd.Zh ?_)));(case side2=>exact HC247.out);rintro e w' ⟨rfl,⟨nd,rfl⟩⟩;refine⟨_,rfl, ?_⟩;(try(rw[Jx wc];generalize hq_:World.drewN wc _=wc;have n0_:Aside0 (wc.heap[gb243]?=some (.cells #[.int .i64 x244000_2,.int .i64 x244001_2,.int .i64 x244002_2] 75 (0,0))):=⟨by rw[← hq_];exact(by(with_reducible repeat first|apply Qb|apply Qd|apply Qc);exact BK243.out)⟩;have n1_:Aside0 (Below w.heap.size w wc):=⟨by rw[← hq_];exact(by repeat(first|(with_reducible first|exact HB.out|apply Qe|apply Qa|apply Qf|refine Qg ?_ GE243.out)|exact HB.out))⟩;clear BK243 HB hq_;have BK243:=n0_;have HB:=n1_;clear n0_ n1_));obtain⟨hcz30_0,hcz30_1,hcz30_2,hfz30_0,hfz30_1,hfz30_2⟩:=qD3 BK243.out))
                refine bodyPost_ret (results_cell_row rfl _ _ gb243 75 #[.int .i64 t248,.int .i64 (wrap64 ((wrap64 (a1+x5_2))+1)),.int .i64 0] (0,0) _ rfl (by(with_reducible repeat first|apply Qb|apply Qd|apply Qc);refine Qk (cs:=#[.int .i64 t248,.int .i64 (wrap64 ((wrap64 (a1+x5_2))+1)),.int .i64 x244002_2]) ?_ 2 _ rfl;(with_reducible repeat first|apply Qb|apply Qd|apply Qc);refine Qk (cs:=#[.int .i64 t248,.int .i64 x244001_2,.int .i64 x244002_2]) ?_ 1 _ rfl;(with_reducible repeat first|apply Qb|apply Qd|apply Qc);refine Qk (cs:=#[.int .i64 x244000_2,.int .i64 x244001_2,.int .i64 x244002_2]) ?_ 0 _ rfl;(with_reducible repeat first|apply Qb|apply Qd|apply Qc);exact BK243.out) Tryd.underlying75 rfl kr) rfl ?_
                exact⟨by first|rfl|(simp[Qo,Qn] <;> rfl)|(simp only[← hji9];first|rfl|(simp[Qo,Qn] <;> rfl))|(simp[*,Qo,Qn] <;> rfl),by repeat(first|(with_reducible first|exact HB.out|apply Qe|apply Qa|apply Qf|refine Qg ?_ GE243.out)|exact HB.out)⟩
               ·rw[if_neg c27] at H
                exact absurd H (by simp)
              ·rw[if_neg c26] at H
               exact absurd H (by simp)
             ·rw[if_neg c25] at H
              exact absurd H (by simp)
       ·rw[if_neg c10] at H
        exact absurd H (by simp)
      ·rw[if_neg c8] at H
       have c8b0:decide ((wrap64 (a1+x5_2))<(l0.length:Int))=false:=decide_eq_false c8
       clear c8
       simp only[Option.some.injEq,Prod.mk.injEq] at H
       obtain⟨rfl,rfl,rfl⟩:=H
       obtain⟨hcz31_0,hcz31_1,hcz31_2,hfz31_0,hfz31_1,hfz31_2⟩:=qD3 BK243.out
       go_wp2
       refine bodyPost_ret (results_cell_row rfl _ _ gb243 75 #[.int .i64 0,.int .i64 0,.int .i64 81] (0,0) _ rfl (by(with_reducible repeat first|apply Qb|apply Qd|apply Qc);refine Qk (cs:=#[.int .i64 0,.int .i64 0,.int .i64 x244002_2]) ?_ 2 _ rfl;(with_reducible repeat first|apply Qb|apply Qd|apply Qc);refine Qk (cs:=#[.int .i64 0,.int .i64 x244001_2,.int .i64 x244002_2]) ?_ 1 _ rfl;(with_reducible repeat first|apply Qb|apply Qd|apply Qc);refine Qk (cs:=#[.int .i64 x244000_2,.int .i64 x244001_2,.int .i64 x244002_2]) ?_ 0 _ rfl;(with_reducible repeat first|apply Qb|apply Qd|apply Qc);exact BK243.out) Tryd.underlying75 rfl kr) rfl ?_
       exact⟨by first|rfl|(simp[Qo,Qn] <;> rfl)|(simp[*,Qo,Qn] <;> rfl),by repeat(first|(with_reducible first|exact HB.out|apply Qe|apply Qa|apply Qf|refine Qg ?_ GE243.out)|exact HB.out)⟩
end Go.Proofs.YtickbejailcehaaDoor.C
