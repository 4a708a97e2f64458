/- Texts of this claim, one behind the other: what the law's functions come to, walked (printed by a program, with the words that the print uses), and what that is, in plain Lean. No conditions of their own. -/
import Derived.Test.YtmfffemidlhcpaaQGroupCosts5
namespace Go.Proofs.Ytmfffemidlhcpaa.GrpPure
open Go.RowKit Go.Proofs.YtmfffemidlhcpaaW.PrintWords Go.Proofs.YtmfffemidlhcpaaW.PrintLast Go.Proofs.YtmfffemidlhcpaaW.PrintMore Go.Proofs.Ytmfffemidlhcpaa.C Go.Proofs.Ytmfffemidlhcpaa.DoorPure
def X9 (a b:Int):Int:=if a<b then b-a else a-b
theorem Y7 {a b:Int} (ha:0≤a∧a≤64) (hb:0≤b∧b≤64):group_dist.f a b=some (X9 a b):=by
  unfold group_dist.f X9
  rw[w64 (n:=a-b) (by omega),w64 (n:=b-a) (by omega)]
  unfold mx
  congr 1
  split <;> split <;> omega
theorem J1 {a b:Int} (ha:0≤a∧a≤64) (hb:0≤b∧b≤64):newelref21_far.f a b=some (X9 a b):=by
  unfold newelref21_far.f X9
  rw[w64 (n:=a-b) (by omega),w64 (n:=b-a) (by omega)]
  split <;> rfl
def L3 (F p d B J:Int):Int:=
  if d=0 then X9 p B else if d=1 then (if d=J then (if p≤B then X9 p B else X9 p (F-1)+X9 (F-1) 0+X9 0 B) else X9 p (F-1)+X9 (F-1) B)
  else (if d=J then (if B≤p then X9 p B else X9 p 0+X9 0 (F-1)+X9 (F-1) B) else X9 p 0+X9 0 B)
theorem Xq {F a b:Int} (ha:0≤a∧a<F) (hb:0≤b∧b<F):0≤X9 a b∧X9 a b≤F-1:=by
  unfold X9;split <;> omega
theorem Ep {F c0 c1 l7 B:Int} (J c2 c3 c4 c5 c6 O:Int) (l8 l9:Bool) (f:Nat) (hf:2<f) (hF:2≤F∧F≤64) (hc:0≤c0∧c0<F) (hp:0≤c0+c1∧c0+c1<F) (hx:0≤B∧B<F) (hl: -1≤l7∧l7≤1):
    group_way.f f F c0 c1 c2 c3 c4 c5 c6 l7 l8 l9 B J O=some (L3 F (c0+c1) l7 B J):=by
  obtain⟨f,rfl⟩:∃ m,f=m+2:=⟨f-2,by omega⟩
  unfold group_way.f
  rw[w64 (n:=c0+c1) (by omega),w64 (n:=F-1) (by omega)]
  simp only[group_way.j0]
  rw[w64 (n:=B - (c0+c1)) (by omega)]
  have hp':0≤c0+c1∧c0+c1≤64:=by omega
  have hx':0≤B∧B≤64:=by omega
  have hF':0≤F-1∧F-1≤64:=by omega
  have X:(0:Int)≤0∧(0:Int)≤64:=by omega
  have q1:=Xq hp hx
  have q2:=Xq hp (b:=F-1) (by omega)
  have Z:=Xq hp (b:=0) (by omega)
  have q4:=Xq (F:=F) (a:=F-1) (b:=0) (by omega) (by omega)
  have q5:=Xq (F:=F) (a:=0) (b:=F-1) (by omega) (by omega)
  have q6:=Xq (F:=F) (a:=F-1) (b:=B) (by omega) hx
  have q7:=Xq (F:=F) (a:=0) (b:=B) (by omega) hx
  generalize hP:c0+c1=p at *
  have hd:l7=0∨l7=1∨l7 = -1:=by omega
  simp only[group_way.j1,Y7 hp' hx',Y7 hp' hF',Y7 hp' X,Y7 hF' X,Y7 X hF',Y7 hF' hx',Y7 X hx',Option.bind_some]
  unfold L3
  rcases hd with rfl|rfl|rfl
  · simp
  · have z1:¬ (1:Int)=0:=by decide
    have z2:(1:Int)>0:=by decide
    have Y:(1:Int)=1:=rfl
    simp only[if_pos z2,if_neg z1,if_true]
    by_cases e:(1:Int)=J
    · simp only[if_pos e,Int.mul_one]
      rw[w64 (n:=B-p) (by omega)]
      by_cases h:p≤B
      · rw[if_pos h,decide_eq_true (by omega),if_pos rfl]
      · rw[if_neg h,decide_eq_false (by omega),if_neg (by decide),w64 (n:=X9 p (F-1)+X9 (F-1) 0) (by omega),w64 (by omega)]
    · simp only[if_neg e]
      rw[if_neg (by decide),w64 (by omega)]
  · have z1:¬ (-1:Int)=0:=by decide
    have z2:¬ (-1:Int)>0:=by decide
    have Y:¬ (-1:Int)=1:=by decide
    simp only[if_neg z2,if_neg z1,if_neg Y]
    by_cases e:(-1:Int)=J
    · simp only[if_pos e]
      rw[show(B-p) * (-1)=p-B by omega,w64 (n:=p-B) (by omega)]
      by_cases h:B≤p
      · rw[if_pos h,decide_eq_true (by omega),if_pos rfl]
      · rw[if_neg h,decide_eq_false (by omega),if_neg (by decide),w64 (n:=X9 p 0+X9 0 (F-1)) (by omega),w64 (by omega)]
    · simp only[if_neg e]
      rw[if_neg (by decide),w64 (by omega)]
theorem Ng {F c0 c1 c2 l7 B:Int} (J c3 c4 c5 c6 O:Int) (l8 l9:Bool) (f:Nat) (hf:2<f) (hF:2≤F∧F≤64) (hc:0≤c0∧c0<F) (hp:0≤c0+c1∧c0+c1<F) (L:c2≠1→c1=0) (hx:0≤B∧B<F) (hl: -1≤l7∧l7≤1):
    newelref21_Way.f f F c0 c1 c2 c3 c4 c5 c6 l7 l8 l9 B J O=some (L3 F (c0+c1) l7 B J):=by
  obtain⟨f,rfl⟩:∃ m,f=m+2:=⟨f-2,by omega⟩
  unfold newelref21_Way.f
  rw[w64 (n:=c0+c1) (by omega)]
  have hp':0≤c0+c1∧c0+c1≤64:=by omega
  have hx':0≤B∧B≤64:=by omega
  have hF':0≤F-1∧F-1≤64:=by omega
  have X:(0:Int)≤0∧(0:Int)≤64:=by omega
  have q1:=Xq hp hx
  have q2:=Xq hp (b:=F-1) (by omega)
  have Z:=Xq hp (b:=0) (by omega)
  have q4:=Xq (F:=F) (a:=F-1) (b:=0) (by omega) (by omega)
  have q5:=Xq (F:=F) (a:=0) (b:=F-1) (by omega) (by omega)
  have q6:=Xq (F:=F) (a:=F-1) (b:=B) (by omega) hx
  have q7:=Xq (F:=F) (a:=0) (b:=B) (by omega) hx
  have ej:(if c2=1 then newelref21_Way.j0 (f+2) F (c0+c1) c0 c1 c2 c3 c4 c5 c6 l7 l8 l9 B J O else newelref21_Way.j0 (f+2) F c0 c0 c1 c2 c3 c4 c5 c6 l7 l8 l9 B J O)=newelref21_Way.j0 (f+2) F (c0+c1) c0 c1 c2 c3 c4 c5 c6 l7 l8 l9 B J O:=by
    by_cases e:c2=1
    · rw[if_pos e]
    · rw[if_neg e,L e,Int.add_zero]
  rw[ej]
  simp only[newelref21_Way.j0,w64 (n:=F-1) (show -1000000000000≤F-1∧F-1≤1000000000000 by omega)]
  generalize hP:c0+c1=p at *
  have hd:l7=0∨l7=1∨l7 = -1:=by omega
  simp only[newelref21_Way.j1,J1 hp' hx',J1 hp' hF',J1 hp' X,J1 hF' X,J1 X hF',J1 hF' hx',J1 X hx',Option.bind_some]
  unfold L3
  rcases hd with rfl|rfl|rfl
  · simp
  · have z1:¬ (1:Int)=0:=by decide
    have Y:(1:Int)=1:=rfl
    simp only[if_neg z1,if_true]
    by_cases e:(1:Int)=J
    · simp only[if_pos e]
      by_cases h:p≤B
      · rw[if_pos h,decide_eq_false (by omega),if_neg (by decide)]
      · rw[if_neg h,decide_eq_true (by omega),if_pos rfl,w64 (n:=X9 p (F-1)+X9 (F-1) 0) (by omega),w64 (by omega)]
    · simp only[if_neg e]
      rw[w64 (by omega)]
  · have z1:¬ (-1:Int)=0:=by decide
    have Y:¬ (-1:Int)=1:=by decide
    simp only[if_neg z1,if_neg Y]
    by_cases e:(-1:Int)=J
    · simp only[if_pos e]
      by_cases h:B≤p
      · rw[if_pos h,decide_eq_false (by omega),if_neg (by decide)]
      · rw[if_neg h,decide_eq_true (by omega),if_pos rfl,w64 (n:=X9 p 0+X9 0 (F-1)) (by omega),w64 (by omega)]
    · simp only[if_neg e]
      rw[w64 (by omega)]
def Ws (g0 g1 g2 Y Z X g9 c0 c1 c2 c3 c4 c5 c6 l7 n B J:Int):Int:=
  wrap64 (wrap64 (Yd Y Z X g9 c2 c3 c4 c5 c6+wrap64 (g1 * L3 g0 (c0+c1) l7 B J))+wrap64 (wrap64 (wrap64 (wrap64 (g2+Y)+X)+Z) * n))
theorem Mz {F c0 c1 c2 c3 c4 c5 c6:Int} (h:Je F c0 c1 c2 c3 c4 c5 c6):(0≤c0+c1∧c0+c1<F)∧(c2≠1→c1=0):=by
  have h1:=h.1.2.1
  have L:=h.2
  unfold Ze at L
  omega
abbrev Vf (a b c:List Int):Int:=wrap64 (wrap64 ((a.length:Int)+(b.length:Int))+(c.length:Int))
theorem N9 {g0 g1 g2 Y g4 g5 Z g7 X g9 c0 c1 c2 c3 c4 c5 c6 l7 B:Int} (J O:Int) (l8 l9:Bool) (a b c:List Int) (f:Nat) (hf:10<f) (h:Kb g0 g1 g2 Y g4 g5 Z g7 X g9 c0 c1 c2 c3 c4 c5 c6 l7) (hx:0≤B∧B<g0):
    group_cost.f f g0 g1 g2 Y g4 g5 Z g7 X g9 c0 c1 c2 c3 c4 c5 c6 l7 l8 l9 a b c B J O=some (Ws g0 g1 g2 Y Z X g9 c0 c1 c2 c3 c4 c5 c6 l7 (Vf a b c) B J):=by
  unfold group_cost.f
  rw[Gn _ _ _ _ _ _ _ _ _ _ _ _ _ _ _ _ _ f hf,if_pos h.1,Ep J c2 c3 c4 c5 c6 O l8 l9 f (by omega) h.1.1.2.1 h.1.2.1.2.1 (Mz h.1.2).1 hx h.2]
  rfl
theorem Me {g0 g1 g2 Y g4 g5 Z g7 X g9 c0 c1 c2 c3 c4 c5 c6 l7 B:Int} (J O:Int) (l8 l9:Bool) (a b c:List Int) (f:Nat) (hf:10<f) (h:Kb g0 g1 g2 Y g4 g5 Z g7 X g9 c0 c1 c2 c3 c4 c5 c6 l7) (hx:0≤B∧B<g0):
    newelref21_Cost.f f g0 g1 g2 Y g4 g5 Z g7 X g9 c0 c1 c2 c3 c4 c5 c6 l7 l8 l9 a b c B J O=some (Ws g0 g1 g2 Y Z X g9 c0 c1 c2 c3 c4 c5 c6 l7 (Vf a b c) B J):=by
  unfold newelref21_Cost.f
  rw[Um _ _ _ _ _ _ _ _ _ _ _ _ _ _ _ _ _ h.1.1 h.1.2 f hf,Ng J c3 c4 c5 c6 O l8 l9 f (by omega) h.1.1.2.1 h.1.2.1.2.1 (Mz h.1.2).1 (Mz h.1.2).2 hx h.2]
  simp only[Option.bind_some]
  unfold Ws Vf
  rw[Int.mul_comm (wrap64 (wrap64 ((a.length:Int)+(b.length:Int))+(c.length:Int)))]
end Go.Proofs.Ytmfffemidlhcpaa.GrpPure
