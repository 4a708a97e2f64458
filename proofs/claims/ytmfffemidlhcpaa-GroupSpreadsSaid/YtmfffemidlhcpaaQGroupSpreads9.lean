/- Texts of this claim, one behind the other: what the law's functions come to, walked (printed by a program, with the words that the print uses), and what that is, in plain Lean. No conditions of their own. -/
import Derived.Test.YtmfffemidlhcpaaQGroupSpreads8
namespace Go.Proofs.Ytmfffemidlhcpaa.GrpPure
open Go.RowKit Go.Proofs.YtmfffemidlhcpaaW.PrintWords Go.Proofs.YtmfffemidlhcpaaW.PrintLast Go.Proofs.YtmfffemidlhcpaaW.PrintMore Go.Proofs.Ytmfffemidlhcpaa.C Go.Proofs.Ytmfffemidlhcpaa.DoorPure
def Ys (a b:Int):Int:=if a<b then b-a else a-b
theorem J0 {a b:Int} (ha:0≤a∧a≤64) (hb:0≤b∧b≤64):group_dist.f a b=some (Ys a b):=by
 unfold group_dist.f Ys
 rw[w64 (n:=a-b) (by omega),w64 (n:=b-a) (by omega)]
 unfold mx
 congr 1
 split <;> split <;> omega
theorem Kz {a b:Int} (ha:0≤a∧a≤64) (hb:0≤b∧b≤64):newelref21_far.f a b=some (Ys a b):=by
 unfold newelref21_far.f Ys
 rw[w64 (n:=a-b) (by omega),w64 (n:=b-a) (by omega)]
 split <;> rfl
def N1 (F p d B J:Int):Int:=
 if d=0 then Ys p B else if d=1 then (if d=J then (if p≤B then Ys p B else Ys p (F-1)+Ys (F-1) 0+Ys 0 B) else Ys p (F-1)+Ys (F-1) B)
 else (if d=J then (if B≤p then Ys p B else Ys p 0+Ys 0 (F-1)+Ys (F-1) B) else Ys p 0+Ys 0 B)
theorem X1 {F a b:Int} (ha:0≤a∧a<F) (hb:0≤b∧b<F):0≤Ys a b∧Ys a b≤F-1:=by
 unfold Ys;split <;> omega
theorem Cy {F c0 c1 Z B:Int} (J c2 c3 c4 c5 c6 Y:Int) (l8 l9:Bool) (f:Nat) (hf:2<f) (hF:2≤F∧F≤64) (hc:0≤c0∧c0<F) (hp:0≤c0+c1∧c0+c1<F) (hx:0≤B∧B<F) (hl: -1≤Z∧Z≤1):
 group_way.f f F c0 c1 c2 c3 c4 c5 c6 Z l8 l9 B J Y=some (N1 F (c0+c1) Z B J):=by
 obtain⟨f,rfl⟩:∃ m,f=m+2:=⟨f-2,by omega⟩
 unfold group_way.f
 rw[w64 (n:=c0+c1) (by omega),w64 (n:=F-1) (by omega)]
 simp only[group_way.j0]
 rw[w64 (n:=B - (c0+c1)) (by omega)]
 have hp':0≤c0+c1∧c0+c1≤64:=by omega
 have hx':0≤B∧B≤64:=by omega
 have hF':0≤F-1∧F-1≤64:=by omega
 have X:(0:Int)≤0∧(0:Int)≤64:=by omega
 have q1:=X1 hp hx
 have q2:=X1 hp (b:=F-1) (by omega)
 have q3:=X1 hp (b:=0) (by omega)
 have q4:=X1 (F:=F) (a:=F-1) (b:=0) (by omega) (by omega)
 have q5:=X1 (F:=F) (a:=0) (b:=F-1) (by omega) (by omega)
 have q6:=X1 (F:=F) (a:=F-1) (b:=B) (by omega) hx
 have q7:=X1 (F:=F) (a:=0) (b:=B) (by omega) hx
 generalize hP:c0+c1=p at *
 have hd:Z=0∨Z=1∨Z = -1:=by omega
 simp only[group_way.j1,J0 hp' hx',J0 hp' hF',J0 hp' X,J0 hF' X,J0 X hF',J0 hF' hx',J0 X hx',Option.bind_some]
 unfold N1
 rcases hd with rfl|rfl|rfl
 ·simp
 ·have z1:¬ (1:Int)=0:=by decide
  have O:(1:Int)>0:=by decide
  have z3:(1:Int)=1:=rfl
  simp only[if_pos O,if_neg z1,if_true]
  by_cases e:(1:Int)=J
  ·simp only[if_pos e,Int.mul_one]
   rw[w64 (n:=B-p) (by omega)]
   by_cases h:p≤B
   ·rw[if_pos h,decide_eq_true (by omega),if_pos rfl]
   ·rw[if_neg h,decide_eq_false (by omega),if_neg (by decide),w64 (n:=Ys p (F-1)+Ys (F-1) 0) (by omega),w64 (by omega)]
  ·simp only[if_neg e]
   rw[if_neg (by decide),w64 (by omega)]
 ·have z1:¬ (-1:Int)=0:=by decide
  have O:¬ (-1:Int)>0:=by decide
  have z3:¬ (-1:Int)=1:=by decide
  simp only[if_neg O,if_neg z1,if_neg z3]
  by_cases e:(-1:Int)=J
  ·simp only[if_pos e]
   rw[show(B-p) * (-1)=p-B by omega,w64 (n:=p-B) (by omega)]
   by_cases h:B≤p
   ·rw[if_pos h,decide_eq_true (by omega),if_pos rfl]
   ·rw[if_neg h,decide_eq_false (by omega),if_neg (by decide),w64 (n:=Ys p 0+Ys 0 (F-1)) (by omega),w64 (by omega)]
  ·simp only[if_neg e]
   rw[if_neg (by decide),w64 (by omega)]
theorem Dk {F c0 c1 c2 Z B:Int} (J c3 c4 c5 c6 Y:Int) (l8 l9:Bool) (f:Nat) (hf:2<f) (hF:2≤F∧F≤64) (hc:0≤c0∧c0<F) (hp:0≤c0+c1∧c0+c1<F) (O:c2≠1→c1=0) (hx:0≤B∧B<F) (hl: -1≤Z∧Z≤1):
 newelref21_Way.f f F c0 c1 c2 c3 c4 c5 c6 Z l8 l9 B J Y=some (N1 F (c0+c1) Z B J):=by
 obtain⟨f,rfl⟩:∃ m,f=m+2:=⟨f-2,by omega⟩
 unfold newelref21_Way.f
 rw[w64 (n:=c0+c1) (by omega)]
 have hp':0≤c0+c1∧c0+c1≤64:=by omega
 have hx':0≤B∧B≤64:=by omega
 have hF':0≤F-1∧F-1≤64:=by omega
 have X:(0:Int)≤0∧(0:Int)≤64:=by omega
 have q1:=X1 hp hx
 have q2:=X1 hp (b:=F-1) (by omega)
 have q3:=X1 hp (b:=0) (by omega)
 have q4:=X1 (F:=F) (a:=F-1) (b:=0) (by omega) (by omega)
 have q5:=X1 (F:=F) (a:=0) (b:=F-1) (by omega) (by omega)
 have q6:=X1 (F:=F) (a:=F-1) (b:=B) (by omega) hx
 have q7:=X1 (F:=F) (a:=0) (b:=B) (by omega) hx
 have ej:(if c2=1 then newelref21_Way.j0 (f+2) F (c0+c1) c0 c1 c2 c3 c4 c5 c6 Z l8 l9 B J Y else newelref21_Way.j0 (f+2) F c0 c0 c1 c2 c3 c4 c5 c6 Z l8 l9 B J Y)=newelref21_Way.j0 (f+2) F (c0+c1) c0 c1 c2 c3 c4 c5 c6 Z l8 l9 B J Y:=by
  by_cases e:c2=1
  ·rw[if_pos e]
  ·rw[if_neg e,O e,Int.add_zero]
 rw[ej]
 simp only[newelref21_Way.j0,w64 (n:=F-1) (show -1000000000000≤F-1∧F-1≤1000000000000 by omega)]
 generalize hP:c0+c1=p at *
 have hd:Z=0∨Z=1∨Z = -1:=by omega
 simp only[newelref21_Way.j1,Kz hp' hx',Kz hp' hF',Kz hp' X,Kz hF' X,Kz X hF',Kz hF' hx',Kz X hx',Option.bind_some]
 unfold N1
 rcases hd with rfl|rfl|rfl
 ·simp
 ·have z1:¬ (1:Int)=0:=by decide
  have z3:(1:Int)=1:=rfl
  simp only[if_neg z1,if_true]
  by_cases e:(1:Int)=J
  ·simp only[if_pos e]
   by_cases h:p≤B
   ·rw[if_pos h,decide_eq_false (by omega),if_neg (by decide)]
   ·rw[if_neg h,decide_eq_true (by omega),if_pos rfl,w64 (n:=Ys p (F-1)+Ys (F-1) 0) (by omega),w64 (by omega)]
  ·simp only[if_neg e]
   rw[w64 (by omega)]
 ·have z1:¬ (-1:Int)=0:=by decide
  have z3:¬ (-1:Int)=1:=by decide
  simp only[if_neg z1,if_neg z3]
  by_cases e:(-1:Int)=J
  ·simp only[if_pos e]
   by_cases h:B≤p
   ·rw[if_pos h,decide_eq_false (by omega),if_neg (by decide)]
   ·rw[if_neg h,decide_eq_true (by omega),if_pos rfl,w64 (n:=Ys p 0+Ys 0 (F-1)) (by omega),w64 (by omega)]
  ·simp only[if_neg e]
   rw[w64 (by omega)]
def Mh (g0 g1 g2 g3 g6 g8 g9 c0 c1 c2 c3 c4 c5 c6 Z n B J:Int):Int:=
 wrap64 (wrap64 (Y2 g3 g6 g8 g9 c2 c3 c4 c5 c6+wrap64 (g1 * N1 g0 (c0+c1) Z B J))+wrap64 (wrap64 (wrap64 (wrap64 (g2+g3)+g8)+g6) * n))
theorem E4 {F c0 c1 c2 c3 c4 c5 c6:Int} (h:J5 F c0 c1 c2 c3 c4 c5 c6):(0≤c0+c1∧c0+c1<F)∧(c2≠1→c1=0):=by
 have h1:=h.1.2.1
 have O:=h.2
 unfold Zu at O
 omega
abbrev Vg (a b c:List Int):Int:=wrap64 (wrap64 ((a.length:Int)+(b.length:Int))+(c.length:Int))
theorem Cd {g0 g1 g2 g3 g4 g5 g6 g7 g8 g9 c0 c1 c2 c3 c4 c5 c6 Z B:Int} (J Y:Int) (l8 l9:Bool) (a b c:List Int) (f:Nat) (hf:10<f) (h:Gh g0 g1 g2 g3 g4 g5 g6 g7 g8 g9 c0 c1 c2 c3 c4 c5 c6 Z) (hx:0≤B∧B<g0):
 group_cost.f f g0 g1 g2 g3 g4 g5 g6 g7 g8 g9 c0 c1 c2 c3 c4 c5 c6 Z l8 l9 a b c B J Y=some (Mh g0 g1 g2 g3 g6 g8 g9 c0 c1 c2 c3 c4 c5 c6 Z (Vg a b c) B J):=by
 unfold group_cost.f
 rw[Vx _ _ _ _ _ _ _ _ _ _ _ _ _ _ _ _ _ f hf,if_pos h.1,Cy J c2 c3 c4 c5 c6 Y l8 l9 f (by omega) h.1.1.2.1 h.1.2.1.2.1 (E4 h.1.2).1 hx h.2]
 rfl
theorem Ec {g0 g1 g2 g3 g4 g5 g6 g7 g8 g9 c0 c1 c2 c3 c4 c5 c6 Z B:Int} (J Y:Int) (l8 l9:Bool) (a b c:List Int) (f:Nat) (hf:10<f) (h:Gh g0 g1 g2 g3 g4 g5 g6 g7 g8 g9 c0 c1 c2 c3 c4 c5 c6 Z) (hx:0≤B∧B<g0):
 newelref21_Cost.f f g0 g1 g2 g3 g4 g5 g6 g7 g8 g9 c0 c1 c2 c3 c4 c5 c6 Z l8 l9 a b c B J Y=some (Mh g0 g1 g2 g3 g6 g8 g9 c0 c1 c2 c3 c4 c5 c6 Z (Vg a b c) B J):=by
 unfold newelref21_Cost.f
 rw[Wv _ _ _ _ _ _ _ _ _ _ _ _ _ _ _ _ _ h.1.1 h.1.2 f hf,Dk J c3 c4 c5 c6 Y l8 l9 f (by omega) h.1.1.2.1 h.1.2.1.2.1 (E4 h.1.2).1 (E4 h.1.2).2 hx h.2]
 simp only[Option.bind_some]
 unfold Mh Vg
 rw[Int.mul_comm (wrap64 (wrap64 ((a.length:Int)+(b.length:Int))+(c.length:Int)))]
end Go.Proofs.Ytmfffemidlhcpaa.GrpPure
