/- Texts of this claim, one behind the other: what the law's functions come to, walked (printed by a program, with the words that the print uses), and what that is, in plain Lean. No conditions of their own. -/
import Derived.Test.YtmfffemidlhcpaaQGroupBounds9
import Derived.WalkMore
namespace Go.Proofs.Ytmfffemidlhcpaa.C
open Go.RowKit Go.Proofs.YtmfffemidlhcpaaW.PrintWords Go.Proofs.YtmfffemidlhcpaaW.PrintLast Go.Proofs.YtmfffemidlhcpaaW.PrintMore
attribute [local go_sem] Z1 Zz Z9 Z8 Zq Zp Z0 Zy
set_option linter.unusedVariables false
set_option linter.unusedSimpArgs false
def group_pick.l0:Nat→Int→Int→Int→Int→Int→Int→Int→Int→Int→Int→Int→Int→Int→Int→List (S31)→List (S36)→List (S86)→Int→Int→Int→Option (Int)
 |0,_,_,_,_,_,_,_,_,_,_,_,_,_,_,_,_,_,_,_,_=>none
 |k+1,X,σ,ρ,B,J,L,O,Y,Z,γ,δ,ε,ζ,η,θ,ι,κ,μ,ν,ξ =>if B<ρ then (if 0≤B then (if (Go.bits .and .i64 (shr .i64 X B) 1)=1 then (group_pick.l0 k X σ ρ (wrap64 (B+1)) J L O Y Z γ δ ε ζ η θ ι κ μ ν ξ) else (if σ<0 then (group_pick.l0 k X B ρ (wrap64 (B+1)) J L O Y Z γ δ ε ζ η θ ι κ μ ν ξ) else ((group_pick_1.f k B J L O Y Z γ δ ε ζ η θ ι κ μ ν ξ).bind fun ax=>((group_pick_1.f k σ J L O Y Z γ δ ε ζ η θ ι κ μ ν ξ).bind fun au=>(if ax<au then (group_pick.l0 k X B ρ (wrap64 (B+1)) J L O Y Z γ δ ε ζ η θ ι κ μ ν ξ) else (group_pick.l0 k X σ ρ (wrap64 (B+1)) J L O Y Z γ δ ε ζ η θ ι κ μ ν ξ)))))) else (none)) else (some σ)
def group_pick.f (k:Nat) (J:Int) (B:Int) (Y:Int) (Z:Int) (γ:Int) (ζ :Int) (ε :Int) (κ :Int) (ι :Int) (θ :Int) (l1:List (S31)) (a2:Int) (a4:List (S36)) (a3:List (S86)) (ac:Int) (ae:Int) (af:Int):Option (Int):=group_pick.l0 k a2 (-1) (l1.length:Int) 0 J B Y Z γ ζ ε κ ι θ l1 a4 a3 ac ae af
theorem group_pick.Zs:∀ k,(∀ O Y L J X Z y6 y7 y8 y9 γ ε ζ η θ ι κ δ μ ν,LeO (group_pick.l0 k O Y L J X Z y6 y7 y8 y9 γ ε ζ η θ ι κ δ μ ν) (group_pick.l0 (k+1) O Y L J X Z y6 y7 y8 y9 γ ε ζ η θ ι κ δ μ ν))
 |0=>fun _ _ _ _ _ _ _ _ _ _ _ _ _ _ _ _ _ _ _ _ r h=>by simp[group_pick.l0] at h
 |k+1=>by
  have B:=group_pick.Zs k
  ·intro O Y L J X Z y6 y7 y8 y9 γ ε ζ η θ ι κ δ μ ν
   unfold group_pick.l0
   repeat' first
   |(with_reducible exact B _ _ _ _ _ _ _ _ _ _ _ _ _ _ _ _ _ _ _ _)
   |(with_reducible exact group_pick_1.mono _ _ _ _ _ _ _ _ _ _ _ _ _ _ _ _ _ _)
   |(with_reducible exact LeO.refl _)
   |(with_reducible exact LeO.none _)
   |(with_reducible refine LeO.ite ?_ ?_)
   |(with_reducible refine LeO.bind ?_ (fun _=>?_))
   |exact B _ _ _ _ _ _ _ _ _ _ _ _ _ _ _ _ _ _ _ _
   |exact group_pick_1.mono _ _ _ _ _ _ _ _ _ _ _ _ _ _ _ _ _ _
   |exact LeO.none _
   |refine LeO.ite ?_ ?_
   |refine LeO.bind ?_ (fun _=>?_)
theorem group_pick.mono:∀ J Z a2 a3 L a5 O a7 a8 a9 X Y γ ε δ ζ η k,LeO (group_pick.f k J Z a2 a3 L a5 O a7 a8 a9 X Y γ ε δ ζ η) (group_pick.f (k+1) J Z a2 a3 L a5 O a7 a8 a9 X Y γ ε δ ζ η):=by
 intro J Z a2 a3 L a5 O a7 a8 a9 X Y γ ε δ ζ η k
 have B:=group_pick.Zs k
 unfold group_pick.f
 repeat' first
   |(with_reducible exact B _ _ _ _ _ _ _ _ _ _ _ _ _ _ _ _ _ _ _ _)
   |(with_reducible exact group_pick_1.mono _ _ _ _ _ _ _ _ _ _ _ _ _ _ _ _ _ _)
   |(with_reducible exact LeO.refl _)
   |(with_reducible exact LeO.none _)
   |(with_reducible refine LeO.ite ?_ ?_)
   |(with_reducible refine LeO.bind ?_ (fun _=>?_))
   |exact B _ _ _ _ _ _ _ _ _ _ _ _ _ _ _ _ _ _ _ _
   |exact group_pick_1.mono _ _ _ _ _ _ _ _ _ _ _ _ _ _ _ _ _ _
   |exact LeO.none _
   |refine LeO.ite ?_ ?_
   |refine LeO.bind ?_ (fun _=>?_)
set_option maxHeartbeats 8000000 in
set_option maxRecDepth 100000 in
theorem group_pick.calls (k:Nat) (J:Int) (B:Int) (Y:Int) (Z:Int) (γ:Int) (ζ :Int) (ε :Int) (κ :Int) (ι :Int) (θ :Int) (A1:Option Addr) (c1:Nat) (l1:List (S31)) (a2:Int) (a8:Option Addr) (a9:Nat) (a4:List (S36)) (aa:Option Addr) (ab:Nat) (a3:List (S86)) (ac:Int) (ae:Int) (af:Int) (r:Int) (w:World) (du:Kd.C k31 w A1 l1.length l1) (dm:l1.length≤c1) (dp:Kd.C k36 w a8 a4.length a4) (dq:a4.length≤a9) (dr:Kd.C k86 w aa a3.length a3) (dt:a3.length≤ab) (h:group_pick.f k J B Y Z γ ζ ε κ ι θ l1 a2 a4 a3 ac ae af=some r):
  Calls Try.prog 38 #[.agg #[.int .i64 J,.int .i64 B,.int .i64 Y,.int .i64 Z,.int .i64 γ,.int .i64 ζ,.int .i64 ε,.int .i64 κ,.int .i64 ι,.int .i64 θ],.slice A1 l1.length c1,.int .i64 a2,.agg #[.slice a8 a4.length a9,.slice aa a3.length ab],.agg #[.int .i64 ac,.int .i64 ae,.int .i64 af]] w fun e w'=>e = .returned (.int .i64 r)∧Below w.heap.size w w':=by
 have dc:=Try.underlying25
 have fe:=Try.underlying50
 have da:=Try.underlying36
 have df:=Aside0.mk du
 have dx:=Aside0.mk dm
 clear du dm
 have br:=Aside0.mk dp
 have cg:=Aside0.mk dq
 clear dp dq
 have ce:=Aside0.mk dr
 have ch:=Aside0.mk dt
 clear dr dt
 have HB:=Aside0.mk (Below.refl w.heap.size w)
 have H:(group_pick.l0 k a2 (-1) (l1.length:Int) 0 J B Y Z γ ζ ε κ ι θ l1 a4 a3 ac ae af)=some r:=h
 clear h
 have H':=Aside0.mk H
 clear H
 go_enter Try.func38,Try.ntmps38
 go_wp2_with (first|((with_reducible refine Qr (N:=5) rfl ?_);refine Qq ?hg (N:=5) ?hd (cs:=#[.int .i64 J,.int .i64 B,.int .i64 Y,.int .i64 Z,.int .i64 γ,.int .i64 ζ,.int .i64 ε,.int .i64 κ,.int .i64 ι,.int .i64 θ]) (t:=25) ?hr ?_;(case hd=>rfl);(case hg=>rfl);(case hr=>first|(go_simp;done)|(go_simp;rfl));intro μ hg w6 hbox hb;have L:=Aside0.mk (Qj (by repeat(first|(with_reducible first|exact HB.out|apply Qg|apply Qd|apply Qf)|exact HB.out)) hb);have O:=Aside0.mk (hbox);have X:=Aside0.mk ((by rw[hg];exact(Qi (by repeat(first|(with_reducible first|exact HB.out|apply Qg|apply Qd|apply Qf)|exact HB.out))):w.heap.size ≤ μ));have δ :=Aside0.mk ((by rw[hg];exact(Qi (by repeat(first|(with_reducible first|exact HB.out|apply Qg|apply Qd|apply Qf)|exact HB.out))):w.heap.size ≤ μ));clear HB;have HB:=L;have η :=O;have hj:=X;have χ := δ;clear L O X δ;clear hb hbox hg)|((with_reducible refine Qr (N:=6) rfl ?_);refine Qq ?hg (N:=6) ?hd (cs:=#[.slice A1 l1.length c1]) (t:=46) ?hr ?_;(case hd=>rfl);(case hg=>rfl);(case hr=>first|(go_simp;done)|(go_simp;rfl));intro ψ hg w7 hbox hb;have L:=Aside0.mk (Qh (g:= μ) (o:=.cells #[.int .i64 J,.int .i64 B,.int .i64 Y,.int .i64 Z,.int .i64 γ,.int .i64 ζ,.int .i64 ε,.int .i64 κ,.int .i64 ι,.int .i64 θ] 25 (0,0)) (by(with_reducible repeat first|apply Qb|apply Qe|apply Qc);exact η.out) hb);have O:=Aside0.mk (Qj (by repeat(first|(with_reducible first|exact HB.out|apply Qg|apply Qd|apply Qf|refine Qa ?_ χ.out)|exact HB.out)) hb);have X:=Aside0.mk (hbox);have δ :=Aside0.mk ((by rw[hg];exact(Qi (by repeat(first|(with_reducible first|exact HB.out|apply Qg|apply Qd|apply Qf|refine Qa ?_ χ.out)|exact HB.out))):w.heap.size ≤ ψ));have ξ :=Aside0.mk ((by rw[hg];exact(Qi (by repeat(first|(with_reducible first|exact HB.out|apply Qg|apply Qd|apply Qf|refine Qa ?_ χ.out)|exact HB.out))):w.heap.size ≤ ψ));have φ :=Aside0.mk ((by rw[hg];exact Nat.ne_of_lt (Qp (g:= μ) (o:=.cells #[.int .i64 J,.int .i64 B,.int .i64 Y,.int .i64 Z,.int .i64 γ,.int .i64 ζ,.int .i64 ε,.int .i64 κ,.int .i64 ι,.int .i64 θ] 25 (0,0)) (by(with_reducible repeat first|apply Qb|apply Qe|apply Qc);exact η.out)): μ ≠ ψ));have ω :=Aside0.mk ((by rw[hg];exact Nat.ne_of_gt (Qp (g:= μ) (o:=.cells #[.int .i64 J,.int .i64 B,.int .i64 Y,.int .i64 Z,.int .i64 γ,.int .i64 ζ,.int .i64 ε,.int .i64 κ,.int .i64 ι,.int .i64 θ] 25 (0,0)) (by(with_reducible repeat first|apply Qb|apply Qe|apply Qc);exact η.out)): ψ ≠ μ));clear η;clear HB;have η :=L;have HB:=O;have ν :=X;have h5:= δ;have ao:= ξ;have ay:= φ;have b0:= ω;clear L O X δ ξ φ ω;clear hb hbox hg)|((with_reducible refine Qr (N:=8) rfl ?_);refine Qq ?hg (N:=8) ?hd (cs:=#[.slice a8 a4.length a9,.slice aa a3.length ab]) (t:=50) ?hr ?_;(case hd=>rfl);(case hg=>rfl);(case hr=>first|(go_simp;done)|(go_simp;rfl));intro a0 hg w8 hbox hb;have L:=Aside0.mk (Qh (g:= μ) (o:=.cells #[.int .i64 J,.int .i64 B,.int .i64 Y,.int .i64 Z,.int .i64 γ,.int .i64 ζ,.int .i64 ε,.int .i64 κ,.int .i64 ι,.int .i64 θ] 25 (0,0)) (by(with_reducible repeat first|apply Qb|apply Qe|apply Qc);exact η.out) hb);have O:=Aside0.mk (Qh (g:= ψ) (o:=.cells #[.slice A1 l1.length c1] 46 (0,0)) (by(with_reducible repeat first|apply Qb|apply Qe|apply Qc);exact ν.out) hb);have X:=Aside0.mk (Qj (by repeat(first|(with_reducible first|exact HB.out|apply Qg|apply Qd|apply Qf|refine Qa ?_ χ.out|refine Qa ?_ ao.out)|exact HB.out)) hb);have δ :=Aside0.mk (hbox);have ξ :=Aside0.mk ((by rw[hg];exact(Qi (by repeat(first|(with_reducible first|exact HB.out|apply Qg|apply Qd|apply Qf|refine Qa ?_ χ.out|refine Qa ?_ ao.out)|exact HB.out))):w.heap.size≤a0));have φ :=Aside0.mk ((by rw[hg];exact(Qi (by repeat(first|(with_reducible first|exact HB.out|apply Qg|apply Qd|apply Qf|refine Qa ?_ χ.out|refine Qa ?_ ao.out)|exact HB.out))):w.heap.size≤a0));have ω :=Aside0.mk ((by rw[hg];exact Nat.ne_of_lt (Qp (g:= μ) (o:=.cells #[.int .i64 J,.int .i64 B,.int .i64 Y,.int .i64 Z,.int .i64 γ,.int .i64 ζ,.int .i64 ε,.int .i64 κ,.int .i64 ι,.int .i64 θ] 25 (0,0)) (by(with_reducible repeat first|apply Qb|apply Qe|apply Qc);exact η.out)): μ ≠ a0));have a6:=Aside0.mk ((by rw[hg];exact Nat.ne_of_gt (Qp (g:= μ) (o:=.cells #[.int .i64 J,.int .i64 B,.int .i64 Y,.int .i64 Z,.int .i64 γ,.int .i64 ζ,.int .i64 ε,.int .i64 κ,.int .i64 ι,.int .i64 θ] 25 (0,0)) (by(with_reducible repeat first|apply Qb|apply Qe|apply Qc);exact η.out)):a0 ≠ μ));have a7:=Aside0.mk ((by rw[hg];exact Nat.ne_of_lt (Qp (g:= ψ) (o:=.cells #[.slice A1 l1.length c1] 46 (0,0)) (by(with_reducible repeat first|apply Qb|apply Qe|apply Qc);exact ν.out)): ψ ≠ a0));have ag:=Aside0.mk ((by rw[hg];exact Nat.ne_of_gt (Qp (g:= ψ) (o:=.cells #[.slice A1 l1.length c1] 46 (0,0)) (by(with_reducible repeat first|apply Qb|apply Qe|apply Qc);exact ν.out)):a0 ≠ ψ));clear η;clear ν;clear HB;have η :=L;have ν :=O;have HB:=X;have σ:= δ;have h6:= ξ;have ap:= φ;have ba:= ω;have bc:=a6;have b1:=a7;have b2:=ag;clear L O X δ ξ φ ω a6 a7 ag;clear hb hbox hg)|((with_reducible refine Qr (N:=9) rfl ?_);refine Qq ?hg (N:=9) ?hd (cs:=#[.int .i64 ac,.int .i64 ae,.int .i64 af]) (t:=36) ?hr ?_;(case hd=>rfl);(case hg=>rfl);(case hr=>first|(go_simp;done)|(go_simp;rfl));intro a1 hg w9 hbox hb;have L:=Aside0.mk (Qh (g:= μ) (o:=.cells #[.int .i64 J,.int .i64 B,.int .i64 Y,.int .i64 Z,.int .i64 γ,.int .i64 ζ,.int .i64 ε,.int .i64 κ,.int .i64 ι,.int .i64 θ] 25 (0,0)) (by(with_reducible repeat first|apply Qb|apply Qe|apply Qc);exact η.out) hb);have O:=Aside0.mk (Qh (g:= ψ) (o:=.cells #[.slice A1 l1.length c1] 46 (0,0)) (by(with_reducible repeat first|apply Qb|apply Qe|apply Qc);exact ν.out) hb);have X:=Aside0.mk (Qh (g:=a0) (o:=.cells #[.slice a8 a4.length a9,.slice aa a3.length ab] 50 (0,0)) (by(with_reducible repeat first|apply Qb|apply Qe|apply Qc);exact σ.out) hb);have δ :=Aside0.mk (Qj (by repeat(first|(with_reducible first|exact HB.out|apply Qg|apply Qd|apply Qf|refine Qa ?_ χ.out|refine Qa ?_ ao.out|refine Qa ?_ ap.out)|exact HB.out)) hb);have ξ :=Aside0.mk (hbox);have φ :=Aside0.mk ((by rw[hg];exact(Qi (by repeat(first|(with_reducible first|exact HB.out|apply Qg|apply Qd|apply Qf|refine Qa ?_ χ.out|refine Qa ?_ ao.out|refine Qa ?_ ap.out)|exact HB.out))):w.heap.size≤a1));have ω :=Aside0.mk ((by rw[hg];exact(Qi (by repeat(first|(with_reducible first|exact HB.out|apply Qg|apply Qd|apply Qf|refine Qa ?_ χ.out|refine Qa ?_ ao.out|refine Qa ?_ ap.out)|exact HB.out))):w.heap.size≤a1));have a6:=Aside0.mk ((by rw[hg];exact Nat.ne_of_lt (Qp (g:= μ) (o:=.cells #[.int .i64 J,.int .i64 B,.int .i64 Y,.int .i64 Z,.int .i64 γ,.int .i64 ζ,.int .i64 ε,.int .i64 κ,.int .i64 ι,.int .i64 θ] 25 (0,0)) (by(with_reducible repeat first|apply Qb|apply Qe|apply Qc);exact η.out)): μ ≠ a1));have a7:=Aside0.mk ((by rw[hg];exact Nat.ne_of_gt (Qp (g:= μ) (o:=.cells #[.int .i64 J,.int .i64 B,.int .i64 Y,.int .i64 Z,.int .i64 γ,.int .i64 ζ,.int .i64 ε,.int .i64 κ,.int .i64 ι,.int .i64 θ] 25 (0,0)) (by(with_reducible repeat first|apply Qb|apply Qe|apply Qc);exact η.out)):a1 ≠ μ));have ag:=Aside0.mk ((by rw[hg];exact Nat.ne_of_lt (Qp (g:= ψ) (o:=.cells #[.slice A1 l1.length c1] 46 (0,0)) (by(with_reducible repeat first|apply Qb|apply Qe|apply Qc);exact ν.out)): ψ ≠ a1));have ah:=Aside0.mk ((by rw[hg];exact Nat.ne_of_gt (Qp (g:= ψ) (o:=.cells #[.slice A1 l1.length c1] 46 (0,0)) (by(with_reducible repeat first|apply Qb|apply Qe|apply Qc);exact ν.out)):a1 ≠ ψ));have ai:=Aside0.mk ((by rw[hg];exact Nat.ne_of_lt (Qp (g:=a0) (o:=.cells #[.slice a8 a4.length a9,.slice aa a3.length ab] 50 (0,0)) (by(with_reducible repeat first|apply Qb|apply Qe|apply Qc);exact σ.out)):a0≠a1));have aj:=Aside0.mk ((by rw[hg];exact Nat.ne_of_gt (Qp (g:=a0) (o:=.cells #[.slice a8 a4.length a9,.slice aa a3.length ab] 50 (0,0)) (by(with_reducible repeat first|apply Qb|apply Qe|apply Qc);exact σ.out)):a1≠a0));clear η;clear ν;clear σ;clear HB;have η :=L;have ν :=O;have σ:=X;have HB:= δ;have τ := ξ;have h7:= φ;have ar:= ω;have bd:=a6;have be:=a7;have b3:=ag;have b5:=ah;have bh:=ai;have bj:=aj;clear L O X δ ξ φ ω a6 a7 ag ah ai aj;clear hb hbox hg;have eg:=b0.out;have em:=ay.out;have gs:=b1.out;have gx:=b2.out;have gb:=b3.out;have ge:=b5.out;obtain⟨bb,bg⟩:=qD1 ν.out))
 go_step3
 go_wp2
 go_step3
 go_wp2
 go_loopg [12,17] k (fun kq gy gz w'=>∃ (an:Int) (ρ:Int),gy = .int .i64 an∧gz = .int .i64 ρ∧Aside0 (group_pick.l0 kq a2 an (l1.length:Int) ρ J B Y Z γ ζ ε κ ι θ l1 a4 a3 ac ae af=some r)∧Aside0 (kq≤k)∧Aside0 (w'.heap[μ]?=some (.cells #[.int .i64 J,.int .i64 B,.int .i64 Y,.int .i64 Z,.int .i64 γ,.int .i64 ζ,.int .i64 ε,.int .i64 κ,.int .i64 ι,.int .i64 θ] 25 (0,0)))∧Aside0 (w'.heap[ψ]?=some (.cells #[(.slice A1 l1.length c1)] 46 (0,0)))∧Aside0 (w'.heap[a0]?=some (.cells #[(.slice a8 a4.length a9),(.slice aa a3.length ab)] 50 (0,0)))∧Aside0 (w'.heap[a1]?=some (.cells #[.int .i64 ac,.int .i64 ae,.int .i64 af] 36 (0,0)))∧Aside0 (Below w.heap.size w w'))
 case atStart=>exact⟨((-1)),(0),qR,qR,H',⟨Nat.le_refl _⟩,⟨by(with_reducible repeat first|apply Qb|apply Qe|apply Qc);exact η.out⟩,⟨by(with_reducible repeat first|apply Qb|apply Qe|apply Qc);exact ν.out⟩,⟨by(with_reducible repeat first|apply Qb|apply Qe|apply Qc);exact σ.out⟩,⟨by(with_reducible repeat first|apply Qb|apply Qe|apply Qc);exact τ.out⟩,⟨by repeat(first|(with_reducible first|exact HB.out|apply Qg|apply Qd|apply Qf|refine Qa ?_ χ.out|refine Qa ?_ ao.out|refine Qa ?_ ap.out|refine Qa ?_ ar.out)|exact HB.out)⟩⟩
 case round=>
  clear H'
  try clear c1
  try clear p2
  try clear c3
  try clear c10
  try clear aw
  try clear b4
  try clear bb
  try clear bg
  obtain⟨an,ρ,rfl,rfl,HA,az,η,ν,σ,τ,HB⟩:=hrel
  cases gk with
  |zero=>exact absurd HA.out (by simp[group_pick.l0])
  |succ k1=>
   have H:=HA.out
   clear HA
   simp only[group_pick.l0] at H
   by_cases al:ρ<(l1.length:Int)
   ·rw[if_pos al] at H
    have c14b0:decide (ρ<(l1.length:Int))=true:=decide_eq_true al
    clear al
    by_cases am:0≤ρ
    ·rw[if_pos am] at H
     have c15b0:=eq_true am
     have c15b1:decide (0≤ρ)=true:=decide_eq_true am
     clear am
     obtain⟨b6,bk⟩:∃ j_:Int,(shr .i64 a2 ρ)=j_:=⟨_,rfl⟩
     replace H:(if (Go.bits .and .i64 (b6) 1)=1 then (group_pick.l0 k1 a2 an (l1.length:Int) (wrap64 (ρ+1)) J B Y Z γ ζ ε κ ι θ l1 a4 a3 ac ae af) else (if an<0 then (group_pick.l0 k1 a2 ρ (l1.length:Int) (wrap64 (ρ+1)) J B Y Z γ ζ ε κ ι θ l1 a4 a3 ac ae af) else ((group_pick_1.f k1 ρ J B Y Z γ ζ ε κ ι θ l1 a4 a3 ac ae af).bind fun ax=>((group_pick_1.f k1 an J B Y Z γ ζ ε κ ι θ l1 a4 a3 ac ae af).bind fun au=>(if ax<au then (group_pick.l0 k1 a2 ρ (l1.length:Int) (wrap64 (ρ+1)) J B Y Z γ ζ ε κ ι θ l1 a4 a3 ac ae af) else (group_pick.l0 k1 a2 an (l1.length:Int) (wrap64 (ρ+1)) J B Y Z γ ζ ε κ ι θ l1 a4 a3 ac ae af))))))=some r:=by first|(rw[bk] at H;exact H)|(simp only[bk] at H ⊢;exact H)
     have h0:(a2 / 2 ^ min ρ.toNat 64)=b6:=bk
     have hji16z:ρ≤64→(a2 / 2 ^ ρ.toNat)=b6:=Gy bk
     by_cases a5:(Go.bits .and .i64 (b6) 1)=1
     ·rw[if_pos a5] at H
      have c17b0:((Go.bits .and .i64 (b6) 1)==1)=true:=beq_iff_eq.mpr a5
      have c17b1:((Go.bits .and .i64 (b6) 1) != 1)=false:=bne_eq_false_iff_eq.mpr a5
      clear a5
      have H':=Aside0.mk H
      clear H
      go_wp2
      go_roundg k1
      case measure=>have:=az.out;omega
      case rel=>exact⟨(an),(wrap64 (ρ+1)),qR,qR,H',⟨by have:=az.out;omega⟩,⟨by(with_reducible repeat first|apply Qb|apply Qe|apply Qc);exact η.out⟩,⟨by(with_reducible repeat first|apply Qb|apply Qe|apply Qc);exact ν.out⟩,⟨by(with_reducible repeat first|apply Qb|apply Qe|apply Qc);exact σ.out⟩,⟨by(with_reducible repeat first|apply Qb|apply Qe|apply Qc);exact τ.out⟩,⟨by repeat(first|(with_reducible first|exact HB.out|apply Qg|apply Qd|apply Qf|refine Qa ?_ χ.out|refine Qa ?_ ao.out|refine Qa ?_ ap.out|refine Qa ?_ ar.out)|exact HB.out)⟩⟩
     ·rw[if_neg a5] at H
      have c17b0:((Go.bits .and .i64 (b6) 1)==1)=false:=beq_eq_false_iff_ne.mpr a5
      have c17b1:((Go.bits .and .i64 (b6) 1) != 1)=true:=bne_iff_ne.mpr a5
      by_cases bl:an<0
      ·rw[if_pos bl] at H
       have c18b0:decide (an<0)=true:=decide_eq_true bl
       clear bl
       have H':=Aside0.mk H
       clear H
       go_wp2
       go_roundg k1
       case measure=>have:=az.out;omega
       case rel=>exact⟨(ρ),(wrap64 (ρ+1)),qR,qR,H',⟨by have:=az.out;omega⟩,⟨by(with_reducible repeat first|apply Qb|apply Qe|apply Qc);exact η.out⟩,⟨by(with_reducible repeat first|apply Qb|apply Qe|apply Qc);exact ν.out⟩,⟨by(with_reducible repeat first|apply Qb|apply Qe|apply Qc);exact σ.out⟩,⟨by(with_reducible repeat first|apply Qb|apply Qe|apply Qc);exact τ.out⟩,⟨by repeat(first|(with_reducible first|exact HB.out|apply Qg|apply Qd|apply Qf|refine Qa ?_ χ.out|refine Qa ?_ ao.out|refine Qa ?_ ap.out|refine Qa ?_ ar.out)|exact HB.out)⟩⟩
      ·rw[if_neg bl] at H
       have c18b0:decide (an<0)=false:=decide_eq_false bl
       clear bl
       replace H:=Option.bind_eq_some_iff.mp H
       obtain⟨ax,bn,H⟩:=H
       replace H:((group_pick_1.f k1 an J B Y Z γ ζ ε κ ι θ l1 a4 a3 ac ae af).bind fun au=>(if ax<au then (group_pick.l0 k1 a2 ρ (l1.length:Int) (wrap64 (ρ+1)) J B Y Z γ ζ ε κ ι θ l1 a4 a3 ac ae af) else (group_pick.l0 k1 a2 an (l1.length:Int) (wrap64 (ρ+1)) J B Y Z γ ζ ε κ ι θ l1 a4 a3 ac ae af)))=some r:=H
       have bp:=Aside0.mk bn
       clear bn
       replace H:=Option.bind_eq_some_iff.mp H
       obtain⟨au,bo,H⟩:=H
       replace H:(if ax<au then (group_pick.l0 k1 a2 ρ (l1.length:Int) (wrap64 (ρ+1)) J B Y Z γ ζ ε κ ι θ l1 a4 a3 ac ae af) else (group_pick.l0 k1 a2 an (l1.length:Int) (wrap64 (ρ+1)) J B Y Z γ ζ ε κ ι θ l1 a4 a3 ac ae af))=some r:=H
       have b7:=Aside0.mk bo
       clear bo
       by_cases av:ax<au
       ·rw[if_pos av] at H
        have c21b0:decide (ax<au)=true:=decide_eq_true av
        clear av
        have H':=Aside0.mk H
        clear H
        have g6:=ay.out
        have gn:=b0.out
        have d0:=ba.out
        have d1:=bc.out
        have d8:=bd.out
        have dd:=be.out
        obtain⟨en,er,b8,fm,fn,fo,fp,bv,bm,bz,et,eu,b9,fq,fr,fu,fv,bw,ca,cf⟩:=Zh η.out
        have cp:=b1.out
        have d7:=b2.out
        have i1:=b3.out
        have i2:=b5.out
        obtain⟨cy,d2⟩:=qD1 ν.out
        have ee:=bh.out
        have ef:=bj.out
        obtain⟨bf,bi,bu,dh⟩:=qD2 σ.out
        obtain⟨d9,db,dj,dk,dl,dv⟩:=qD3 τ.out
        go_wp2_with (first|(go_at_call 58;(with_reducible refine(group_pick_1.calls k1 ρ J B Y Z γ ζ ε κ ι θ _ _ l1 _ _ a4 _ _ a3 ac ae af ax _ ?side1 ?side2 ?side3 ?side4 ?side5 ?side6 bp.out μ ψ a0 a1 (by(with_reducible repeat first|apply Qb|apply Qe|apply Qc);exact η.out) (by(with_reducible repeat first|apply Qb|apply Qe|apply Qc);exact ν.out) (by(with_reducible repeat first|apply Qb|apply Qe|apply Qc);exact σ.out) (by(with_reducible repeat first|apply Qb|apply Qe|apply Qc);exact τ.out)).mono ?_);(case side1=>repeat(first|exact(Kd.Q0 df.out HB.out)|(with_reducible refine Kd.Q3 ?_ _)|(with_reducible refine Kd.Q2 ?_ _)|(with_reducible refine Kd.Q9 ?_)));(case side2=>exact dx.out);(case side3=>repeat(first|exact(Kd.Q0 br.out HB.out)|(with_reducible refine Kd.Q3 ?_ _)|(with_reducible refine Kd.Q2 ?_ _)|(with_reducible refine Kd.Q9 ?_)));(case side4=>exact cg.out);(case side5=>repeat(first|exact(Kd.Q0 ce.out HB.out)|(with_reducible refine Kd.Q3 ?_ _)|(with_reducible refine Kd.Q2 ?_ _)|(with_reducible refine Kd.Q9 ?_)));(case side6=>exact ch.out);rintro e jv ⟨rfl,hb⟩;have L:=Aside0.mk (Qh (g:= μ) (o:=.cells #[.int .i64 J,.int .i64 B,.int .i64 Y,.int .i64 Z,.int .i64 γ,.int .i64 ζ,.int .i64 ε,.int .i64 κ,.int .i64 ι,.int .i64 θ] 25 (0,0)) (by(with_reducible repeat first|apply Qb|apply Qe|apply Qc);exact η.out) hb);have O:=Aside0.mk (Qh (g:= ψ) (o:=.cells #[.slice A1 l1.length c1] 46 (0,0)) (by(with_reducible repeat first|apply Qb|apply Qe|apply Qc);exact ν.out) hb);have X:=Aside0.mk (Qh (g:=a0) (o:=.cells #[.slice a8 a4.length a9,.slice aa a3.length ab] 50 (0,0)) (by(with_reducible repeat first|apply Qb|apply Qe|apply Qc);exact σ.out) hb);have δ :=Aside0.mk (Qh (g:=a1) (o:=.cells #[.int .i64 ac,.int .i64 ae,.int .i64 af] 36 (0,0)) (by(with_reducible repeat first|apply Qb|apply Qe|apply Qc);exact τ.out) hb);have ξ :=Aside0.mk (Qj (by repeat(first|(with_reducible first|exact HB.out|apply Qg|apply Qd|apply Qf|refine Qa ?_ χ.out|refine Qa ?_ ao.out|refine Qa ?_ ap.out|refine Qa ?_ ar.out)|exact HB.out)) hb);clear η;clear ν;clear σ;clear τ;clear HB;have η :=L;have ν :=O;have σ:=X;have τ := δ;have HB:= ξ;clear L O X δ ξ;(try clear hb);(try clear ak);(try clear hk);(try clear hi);obtain⟨de,dy,e3,fw,fx,g4,g5,cq,cr,ct,dz,e0,ej,g9,ga,gh,gi,cv,cw,cx⟩:=Zh η.out;obtain⟨ci,co⟩:=qD1 ν.out;obtain⟨eo,ey,ft,g2⟩:=qD2 σ.out;obtain⟨fy,fz,cb,g0,g1,cd⟩:=qD3 τ.out)|(go_at_call 58;(with_reducible refine(group_pick_1.calls k1 an J B Y Z γ ζ ε κ ι θ _ _ l1 _ _ a4 _ _ a3 ac ae af au _ ?side1 ?side2 ?side3 ?side4 ?side5 ?side6 b7.out μ ψ a0 a1 (by(with_reducible repeat first|apply Qb|apply Qe|apply Qc);exact η.out) (by(with_reducible repeat first|apply Qb|apply Qe|apply Qc);exact ν.out) (by(with_reducible repeat first|apply Qb|apply Qe|apply Qc);exact σ.out) (by(with_reducible repeat first|apply Qb|apply Qe|apply Qc);exact τ.out)).mono ?_);(case side1=>repeat(first|exact(Kd.Q0 df.out HB.out)|(with_reducible refine Kd.Q3 ?_ _)|(with_reducible refine Kd.Q2 ?_ _)|(with_reducible refine Kd.Q9 ?_)));(case side2=>exact dx.out);(case side3=>repeat(first|exact(Kd.Q0 br.out HB.out)|(with_reducible refine Kd.Q3 ?_ _)|(with_reducible refine Kd.Q2 ?_ _)|(with_reducible refine Kd.Q9 ?_)));(case side4=>exact cg.out);(case side5=>repeat(first|exact(Kd.Q0 ce.out HB.out)|(with_reducible refine Kd.Q3 ?_ _)|(with_reducible refine Kd.Q2 ?_ _)|(with_reducible refine Kd.Q9 ?_)));(case side6=>exact ch.out);rintro e io ⟨rfl,hb⟩;have L:=Aside0.mk (Qh (g:= μ) (o:=.cells #[.int .i64 J,.int .i64 B,.int .i64 Y,.int .i64 Z,.int .i64 γ,.int .i64 ζ,.int .i64 ε,.int .i64 κ,.int .i64 ι,.int .i64 θ] 25 (0,0)) (by(with_reducible repeat first|apply Qb|apply Qe|apply Qc);exact η.out) hb);have O:=Aside0.mk (Qh (g:= ψ) (o:=.cells #[.slice A1 l1.length c1] 46 (0,0)) (by(with_reducible repeat first|apply Qb|apply Qe|apply Qc);exact ν.out) hb);have X:=Aside0.mk (Qh (g:=a0) (o:=.cells #[.slice a8 a4.length a9,.slice aa a3.length ab] 50 (0,0)) (by(with_reducible repeat first|apply Qb|apply Qe|apply Qc);exact σ.out) hb);have δ :=Aside0.mk (Qh (g:=a1) (o:=.cells #[.int .i64 ac,.int .i64 ae,.int .i64 af] 36 (0,0)) (by(with_reducible repeat first|apply Qb|apply Qe|apply Qc);exact τ.out) hb);have ξ :=Aside0.mk (Qj (by repeat(first|(with_reducible first|exact HB.out|apply Qg|apply Qd|apply Qf|refine Qa ?_ χ.out|refine Qa ?_ ao.out|refine Qa ?_ ap.out|refine Qa ?_ ar.out)|exact HB.out)) hb);clear η;clear ν;clear σ;clear τ;clear HB;have η :=L;have ν :=O;have σ:=X;have τ := δ;have HB:= ξ;clear L O X δ ξ;(try clear hb);(try clear ak);(try clear hk);(try clear hi)))
        go_roundg k1
        case measure=>have:=az.out;omega
        case rel=>exact⟨(ρ),(wrap64 (ρ+1)),qR,qR,H',⟨by have:=az.out;omega⟩,⟨by(with_reducible repeat first|apply Qb|apply Qe|apply Qc);exact η.out⟩,⟨by(with_reducible repeat first|apply Qb|apply Qe|apply Qc);exact ν.out⟩,⟨by(with_reducible repeat first|apply Qb|apply Qe|apply Qc);exact σ.out⟩,⟨by(with_reducible repeat first|apply Qb|apply Qe|apply Qc);exact τ.out⟩,⟨by repeat(first|(with_reducible first|exact HB.out|apply Qg|apply Qd|apply Qf|refine Qa ?_ χ.out|refine Qa ?_ ao.out|refine Qa ?_ ap.out|refine Qa ?_ ar.out)|exact HB.out)⟩⟩
       ·rw[if_neg av] at H
        have c21b0:decide (ax<au)=false:=decide_eq_false av
        clear av
        have H':=Aside0.mk H
        clear H
        have i4:=ay.out
        have i5:=b0.out
        have ev:=ba.out
        have ew:=bc.out
        have ix:=bd.out
        have iy:=be.out
        obtain⟨ea,eb,di,ie,ig,ih,ii,bq,cj,ck,fc,ff,ez,ij,ik,il,im,cm,cn,cu⟩:=Zh η.out
        have gp:=b1.out
        have gq:=b2.out
        have hy:=b3.out
        have i0:=b5.out
        obtain⟨bs,fb⟩:=qD1 ν.out
        have he:=bh.out
        have hh:=bj.out
        obtain⟨gt,gu,gv,gw⟩:=qD2 σ.out
        obtain⟨d3,d4,cz,d5,d6,dn⟩:=qD3 τ.out
        go_wp2_with (first|(go_at_call 58;(with_reducible refine(group_pick_1.calls k1 ρ J B Y Z γ ζ ε κ ι θ _ _ l1 _ _ a4 _ _ a3 ac ae af ax _ ?side1 ?side2 ?side3 ?side4 ?side5 ?side6 bp.out μ ψ a0 a1 (by(with_reducible repeat first|apply Qb|apply Qe|apply Qc);exact η.out) (by(with_reducible repeat first|apply Qb|apply Qe|apply Qc);exact ν.out) (by(with_reducible repeat first|apply Qb|apply Qe|apply Qc);exact σ.out) (by(with_reducible repeat first|apply Qb|apply Qe|apply Qc);exact τ.out)).mono ?_);(case side1=>repeat(first|exact(Kd.Q0 df.out HB.out)|(with_reducible refine Kd.Q3 ?_ _)|(with_reducible refine Kd.Q2 ?_ _)|(with_reducible refine Kd.Q9 ?_)));(case side2=>exact dx.out);(case side3=>repeat(first|exact(Kd.Q0 br.out HB.out)|(with_reducible refine Kd.Q3 ?_ _)|(with_reducible refine Kd.Q2 ?_ _)|(with_reducible refine Kd.Q9 ?_)));(case side4=>exact cg.out);(case side5=>repeat(first|exact(Kd.Q0 ce.out HB.out)|(with_reducible refine Kd.Q3 ?_ _)|(with_reducible refine Kd.Q2 ?_ _)|(with_reducible refine Kd.Q9 ?_)));(case side6=>exact ch.out);rintro e h4 ⟨rfl,hb⟩;have L:=Aside0.mk (Qh (g:= μ) (o:=.cells #[.int .i64 J,.int .i64 B,.int .i64 Y,.int .i64 Z,.int .i64 γ,.int .i64 ζ,.int .i64 ε,.int .i64 κ,.int .i64 ι,.int .i64 θ] 25 (0,0)) (by(with_reducible repeat first|apply Qb|apply Qe|apply Qc);exact η.out) hb);have O:=Aside0.mk (Qh (g:= ψ) (o:=.cells #[.slice A1 l1.length c1] 46 (0,0)) (by(with_reducible repeat first|apply Qb|apply Qe|apply Qc);exact ν.out) hb);have X:=Aside0.mk (Qh (g:=a0) (o:=.cells #[.slice a8 a4.length a9,.slice aa a3.length ab] 50 (0,0)) (by(with_reducible repeat first|apply Qb|apply Qe|apply Qc);exact σ.out) hb);have δ :=Aside0.mk (Qh (g:=a1) (o:=.cells #[.int .i64 ac,.int .i64 ae,.int .i64 af] 36 (0,0)) (by(with_reducible repeat first|apply Qb|apply Qe|apply Qc);exact τ.out) hb);have ξ :=Aside0.mk (Qj (by repeat(first|(with_reducible first|exact HB.out|apply Qg|apply Qd|apply Qf|refine Qa ?_ χ.out|refine Qa ?_ ao.out|refine Qa ?_ ap.out|refine Qa ?_ ar.out)|exact HB.out)) hb);clear η;clear ν;clear σ;clear τ;clear HB;have η :=L;have ν :=O;have σ:=X;have τ := δ;have HB:= ξ;clear L O X δ ξ;(try clear hb);(try clear ak);(try clear hk);(try clear hi);obtain⟨dw,e8,e9,ec,ed,ei,ek,el,ep,f8,fa,fg,fh,fi,fj,fk,fl,g3,g7,g8⟩:=Zh η.out;obtain⟨eh,gr⟩:=qD1 ν.out;obtain⟨gf,gg,gj,gl⟩:=qD2 σ.out;obtain⟨e4,e5,j5,e6,e7,j6⟩:=qD3 τ.out)|(go_at_call 58;(with_reducible refine(group_pick_1.calls k1 an J B Y Z γ ζ ε κ ι θ _ _ l1 _ _ a4 _ _ a3 ac ae af au _ ?side1 ?side2 ?side3 ?side4 ?side5 ?side6 b7.out μ ψ a0 a1 (by(with_reducible repeat first|apply Qb|apply Qe|apply Qc);exact η.out) (by(with_reducible repeat first|apply Qb|apply Qe|apply Qc);exact ν.out) (by(with_reducible repeat first|apply Qb|apply Qe|apply Qc);exact σ.out) (by(with_reducible repeat first|apply Qb|apply Qe|apply Qc);exact τ.out)).mono ?_);(case side1=>repeat(first|exact(Kd.Q0 df.out HB.out)|(with_reducible refine Kd.Q3 ?_ _)|(with_reducible refine Kd.Q2 ?_ _)|(with_reducible refine Kd.Q9 ?_)));(case side2=>exact dx.out);(case side3=>repeat(first|exact(Kd.Q0 br.out HB.out)|(with_reducible refine Kd.Q3 ?_ _)|(with_reducible refine Kd.Q2 ?_ _)|(with_reducible refine Kd.Q9 ?_)));(case side4=>exact cg.out);(case side5=>repeat(first|exact(Kd.Q0 ce.out HB.out)|(with_reducible refine Kd.Q3 ?_ _)|(with_reducible refine Kd.Q2 ?_ _)|(with_reducible refine Kd.Q9 ?_)));(case side6=>exact ch.out);rintro e gm ⟨rfl,hb⟩;have L:=Aside0.mk (Qh (g:= μ) (o:=.cells #[.int .i64 J,.int .i64 B,.int .i64 Y,.int .i64 Z,.int .i64 γ,.int .i64 ζ,.int .i64 ε,.int .i64 κ,.int .i64 ι,.int .i64 θ] 25 (0,0)) (by(with_reducible repeat first|apply Qb|apply Qe|apply Qc);exact η.out) hb);have O:=Aside0.mk (Qh (g:= ψ) (o:=.cells #[.slice A1 l1.length c1] 46 (0,0)) (by(with_reducible repeat first|apply Qb|apply Qe|apply Qc);exact ν.out) hb);have X:=Aside0.mk (Qh (g:=a0) (o:=.cells #[.slice a8 a4.length a9,.slice aa a3.length ab] 50 (0,0)) (by(with_reducible repeat first|apply Qb|apply Qe|apply Qc);exact σ.out) hb);have δ :=Aside0.mk (Qh (g:=a1) (o:=.cells #[.int .i64 ac,.int .i64 ae,.int .i64 af] 36 (0,0)) (by(with_reducible repeat first|apply Qb|apply Qe|apply Qc);exact τ.out) hb);have ξ :=Aside0.mk (Qj (by repeat(first|(with_reducible first|exact HB.out|apply Qg|apply Qd|apply Qf|refine Qa ?_ χ.out|refine Qa ?_ ao.out|refine Qa ?_ ap.out|refine Qa ?_ ar.out)|exact HB.out)) hb);clear η;clear ν;clear σ;clear τ;clear HB;have η :=L;have ν :=O;have σ:=X;have τ := δ;have HB:= ξ;clear L O X δ ξ;(try clear hb);(try clear ak);(try clear hk);(try clear hi)))
        go_roundg k1
        case measure=>have:=az.out;omega
        case rel=>exact⟨(an),(wrap64 (ρ+1)),qR,qR,H',⟨by have:=az.out;omega⟩,⟨by(with_reducible repeat first|apply Qb|apply Qe|apply Qc);exact η.out⟩,⟨by(with_reducible repeat first|apply Qb|apply Qe|apply Qc);exact ν.out⟩,⟨by(with_reducible repeat first|apply Qb|apply Qe|apply Qc);exact σ.out⟩,⟨by(with_reducible repeat first|apply Qb|apply Qe|apply Qc);exact τ.out⟩,⟨by repeat(first|(with_reducible first|exact HB.out|apply Qg|apply Qd|apply Qf|refine Qa ?_ χ.out|refine Qa ?_ ao.out|refine Qa ?_ ap.out|refine Qa ?_ ar.out)|exact HB.out)⟩⟩
    ·rw[if_neg am] at H
     exact absurd H (by simp)
   ·rw[if_neg al] at H
    have c14b0:decide (ρ<(l1.length:Int))=false:=decide_eq_false al
    clear al
    obtain rfl:=Option.some.inj H
    go_wp2
    (try rw[Exit.noGoto_ret])
    go_ret
    exact⟨by first|rfl|(simp[Qo,Qn] <;> rfl)|(simp[*,Qo,Qn] <;> rfl),by repeat(first|(with_reducible first|exact HB.out|apply Qg|apply Qd|apply Qf|refine Qa ?_ χ.out|refine Qa ?_ ao.out|refine Qa ?_ ap.out|refine Qa ?_ ar.out)|exact HB.out)⟩
def group_Pick.f (k:Nat) (J:Int) (B:Int) (Y:Int) (Z:Int) (γ:Int) (ζ :Int) (ε :Int) (κ :Int) (ι :Int) (θ :Int) (l1:List (S31)) (a2:Int) (a4:List (S36)) (a3:List (S86)) (ac:Int) (ae:Int) (af:Int):Option (Int×Int):=(group_Check.f k J B Y Z γ ζ ε κ ι θ l1 a4 a3).bind fun a1=>(if a1=0 then ((group_house.f J B Y Z γ ζ ε κ ι θ l1).bind fun ao=>((group_hall.f k ao.1 ao.2 ac ae af).bind fun ap=>(if ap=true then ((group_pick.f k J B Y Z γ ζ ε κ ι θ l1 a2 a4 a3 ac ae af).bind fun a5=>(some (a5,0))) else (some (0,210))))) else (some (0,a1)))
theorem group_Pick.mono:∀ J Z a2 a3 L a5 O a7 a8 a9 X Y γ ε δ ζ η k,LeO (group_Pick.f k J Z a2 a3 L a5 O a7 a8 a9 X Y γ ε δ ζ η) (group_Pick.f (k+1) J Z a2 a3 L a5 O a7 a8 a9 X Y γ ε δ ζ η):=by
 intro J Z a2 a3 L a5 O a7 a8 a9 X Y γ ε δ ζ η k
 unfold group_Pick.f
 repeat' first
   |(with_reducible exact group_Check.mono _ _ _ _ _ _ _ _ _ _ _ _ _ _)
   |(with_reducible exact group_hall.mono _ _ _ _ _ _)
   |(with_reducible exact group_pick.mono _ _ _ _ _ _ _ _ _ _ _ _ _ _ _ _ _ _)
   |(with_reducible exact LeO.refl _)
   |(with_reducible exact LeO.none _)
   |(with_reducible refine LeO.ite ?_ ?_)
   |(with_reducible refine LeO.bind ?_ (fun _=>?_))
   |exact group_Check.mono _ _ _ _ _ _ _ _ _ _ _ _ _ _
   |exact group_hall.mono _ _ _ _ _ _
   |exact group_pick.mono _ _ _ _ _ _ _ _ _ _ _ _ _ _ _ _ _ _
   |exact LeO.none _
   |refine LeO.ite ?_ ?_
   |refine LeO.bind ?_ (fun _=>?_)
set_option maxHeartbeats 8000000 in
set_option maxRecDepth 100000 in
theorem group_Pick.calls (k:Nat) (J:Int) (B:Int) (Y:Int) (Z:Int) (γ:Int) (ζ :Int) (ε :Int) (κ :Int) (ι :Int) (θ :Int) (A1:Option Addr) (c1:Nat) (l1:List (S31)) (a2:Int) (a8:Option Addr) (a9:Nat) (a4:List (S36)) (aa:Option Addr) (ab:Nat) (a3:List (S86)) (ac:Int) (ae:Int) (af:Int) (r1:Int) (r2:Int) (w:World) (du:Kd.C k31 w A1 l1.length l1) (dm:l1.length≤c1) (dp:Kd.C k36 w a8 a4.length a4) (dq:a4.length≤a9) (dr:Kd.C k86 w aa a3.length a3) (dt:a3.length≤ab) (h:group_Pick.f k J B Y Z γ ζ ε κ ι θ l1 a2 a4 a3 ac ae af=some (r1,r2)):
  Calls Try.prog 14 #[.agg #[.int .i64 J,.int .i64 B,.int .i64 Y,.int .i64 Z,.int .i64 γ,.int .i64 ζ,.int .i64 ε,.int .i64 κ,.int .i64 ι,.int .i64 θ],.slice A1 l1.length c1,.int .i64 a2,.agg #[.slice a8 a4.length a9,.slice aa a3.length ab],.agg #[.int .i64 ac,.int .i64 ae,.int .i64 af]] w fun e w'=>e = .returned (.tuple #[.int .i64 r1,.int .i64 r2])∧Below w.heap.size w w':=by
 have dc:=Try.underlying25
 have fe:=Try.underlying50
 have da:=Try.underlying36
 have df:=Aside0.mk du
 have dx:=Aside0.mk dm
 clear du dm
 have br:=Aside0.mk dp
 have cg:=Aside0.mk dq
 clear dp dq
 have ce:=Aside0.mk dr
 have ch:=Aside0.mk dt
 clear dr dt
 have HB:=Aside0.mk (Below.refl w.heap.size w)
 have H:((group_Check.f k J B Y Z γ ζ ε κ ι θ l1 a4 a3).bind fun a1=>(if a1=0 then ((group_house.f J B Y Z γ ζ ε κ ι θ l1).bind fun ao=>((group_hall.f k ao.1 ao.2 ac ae af).bind fun ap=>(if ap=true then ((group_pick.f k J B Y Z γ ζ ε κ ι θ l1 a2 a4 a3 ac ae af).bind fun a5=>(some (a5,0))) else (some (0,210))))) else (some (0,a1))))=some (r1,r2):=h
 clear h
 replace H:=Option.bind_eq_some_iff.mp H
 obtain⟨a1,bc,H⟩:=H
 replace H:(if a1=0 then ((group_house.f J B Y Z γ ζ ε κ ι θ l1).bind fun ao=>((group_hall.f k ao.1 ao.2 ac ae af).bind fun ap=>(if ap=true then ((group_pick.f k J B Y Z γ ζ ε κ ι θ l1 a2 a4 a3 ac ae af).bind fun a5=>(some (a5,0))) else (some (0,210))))) else (some (0,a1)))=some (r1,r2):=H
 have A6:=Aside0.mk bc
 clear bc
 by_cases c7:a1=0
 ·rw[if_pos c7] at H
  have c7b0:(a1==0)=true:=beq_iff_eq.mpr c7
  have c7b1:(a1 != 0)=false:=bne_eq_false_iff_eq.mpr c7
  clear c7
  replace H:=Option.bind_eq_some_iff.mp H
  obtain⟨⟨ar,au⟩,bj,H⟩:=H
  replace H:((group_hall.f k ar au ac ae af).bind fun ap=>(if ap=true then ((group_pick.f k J B Y Z γ ζ ε κ ι θ l1 a2 a4 a3 ac ae af).bind fun a5=>(some (a5,0))) else (some (0,210))))=some (r1,r2):=H
  have A8:=Aside0.mk bj
  clear bj
  replace H:=Option.bind_eq_some_iff.mp H
  obtain⟨ap,cn,H⟩:=H
  replace H:(if ap=true then ((group_pick.f k J B Y Z γ ζ ε κ ι θ l1 a2 a4 a3 ac ae af).bind fun a5=>(some (a5,0))) else (some (0,210)))=some (r1,r2):=H
  have A9:=Aside0.mk cn
  clear cn
  by_cases c10:ap=true
  ·subst c10
   have H1:((group_pick.f k J B Y Z γ ζ ε κ ι θ l1 a2 a4 a3 ac ae af).bind fun a5=>(some (a5,0)))=some (r1,r2):=by rw[if_pos rfl] at H;exact H
   clear H
   have H:=H1
   clear H1
   replace H:=Option.bind_eq_some_iff.mp H
   obtain⟨a5,cp,H⟩:=H
   replace H:(some (a5,0))=some (r1,r2):=H
   have eg:=Aside0.mk cp
   clear cp
   simp only[Option.some.injEq,Prod.mk.injEq] at H
   obtain⟨rfl,rfl⟩:=H
   go_enter Try.func14,Try.ntmps14
   try go_wp2_with (first|((with_reducible refine Qr (N:=5) rfl ?_);refine Qq ?hg (N:=5) ?hd (cs:=#[.int .i64 J,.int .i64 B,.int .i64 Y,.int .i64 Z,.int .i64 γ,.int .i64 ζ,.int .i64 ε,.int .i64 κ,.int .i64 ι,.int .i64 θ]) (t:=25) ?hr ?_;(case hd=>rfl);(case hg=>rfl);(case hr=>first|(go_simp;done)|(go_simp;rfl));intro μ hg fb hbox hb;have L:=Aside0.mk (Qj (by repeat(first|(with_reducible first|exact HB.out|apply Qg|apply Qd|apply Qf)|exact HB.out)) hb);have O:=Aside0.mk (hbox);have X:=Aside0.mk ((by rw[hg];exact(Qi (by repeat(first|(with_reducible first|exact HB.out|apply Qg|apply Qd|apply Qf)|exact HB.out))):w.heap.size ≤ μ));have δ :=Aside0.mk ((by rw[hg];exact(Qi (by repeat(first|(with_reducible first|exact HB.out|apply Qg|apply Qd|apply Qf)|exact HB.out))):w.heap.size ≤ μ));clear HB;have HB:=L;have η :=O;have av:=X;have χ := δ;clear L O X δ;clear hb hbox hg)|((with_reducible refine Qr (N:=8) rfl ?_);refine Qq ?hg (N:=8) ?hd (cs:=#[.slice a8 a4.length a9,.slice aa a3.length ab]) (t:=50) ?hr ?_;(case hd=>rfl);(case hg=>rfl);(case hr=>first|(go_simp;done)|(go_simp;rfl));intro σ hg ew hbox hb;have L:=Aside0.mk (Qh (g:= μ) (o:=.cells #[.int .i64 J,.int .i64 B,.int .i64 Y,.int .i64 Z,.int .i64 γ,.int .i64 ζ,.int .i64 ε,.int .i64 κ,.int .i64 ι,.int .i64 θ] 25 (0,0)) (by(with_reducible repeat first|apply Qb|apply Qe|apply Qc);exact η.out) hb);have O:=Aside0.mk (Qj (by repeat(first|(with_reducible first|exact HB.out|apply Qg|apply Qd|apply Qf|refine Qa ?_ χ.out)|exact HB.out)) hb);have X:=Aside0.mk (hbox);have δ :=Aside0.mk ((by rw[hg];exact(Qi (by repeat(first|(with_reducible first|exact HB.out|apply Qg|apply Qd|apply Qf|refine Qa ?_ χ.out)|exact HB.out))):w.heap.size≤σ));have ξ :=Aside0.mk ((by rw[hg];exact(Qi (by repeat(first|(with_reducible first|exact HB.out|apply Qg|apply Qd|apply Qf|refine Qa ?_ χ.out)|exact HB.out))):w.heap.size≤σ));have φ :=Aside0.mk ((by rw[hg];exact Nat.ne_of_lt (Qp (g:= μ) (o:=.cells #[.int .i64 J,.int .i64 B,.int .i64 Y,.int .i64 Z,.int .i64 γ,.int .i64 ζ,.int .i64 ε,.int .i64 κ,.int .i64 ι,.int .i64 θ] 25 (0,0)) (by(with_reducible repeat first|apply Qb|apply Qe|apply Qc);exact η.out)): μ ≠ σ));have ω :=Aside0.mk ((by rw[hg];exact Nat.ne_of_gt (Qp (g:= μ) (o:=.cells #[.int .i64 J,.int .i64 B,.int .i64 Y,.int .i64 Z,.int .i64 γ,.int .i64 ζ,.int .i64 ε,.int .i64 κ,.int .i64 ι,.int .i64 θ] 25 (0,0)) (by(with_reducible repeat first|apply Qb|apply Qe|apply Qc);exact η.out)):σ ≠ μ));clear η;clear HB;have η :=L;have HB:=O;have ν :=X;have aw:= δ;have ψ := ξ;have ah:= φ;have ai:= ω;clear L O X δ ξ φ ω;clear hb hbox hg)|((with_reducible refine Qr (N:=9) rfl ?_);refine Qq ?hg (N:=9) ?hd (cs:=#[.int .i64 ac,.int .i64 ae,.int .i64 af]) (t:=36) ?hr ?_;(case hd=>rfl);(case hg=>rfl);(case hr=>first|(go_simp;done)|(go_simp;rfl));intro τ hg cf hbox hb;have L:=Aside0.mk (Qh (g:= μ) (o:=.cells #[.int .i64 J,.int .i64 B,.int .i64 Y,.int .i64 Z,.int .i64 γ,.int .i64 ζ,.int .i64 ε,.int .i64 κ,.int .i64 ι,.int .i64 θ] 25 (0,0)) (by(with_reducible repeat first|apply Qb|apply Qe|apply Qc);exact η.out) hb);have O:=Aside0.mk (Qh (g:=σ) (o:=.cells #[.slice a8 a4.length a9,.slice aa a3.length ab] 50 (0,0)) (by(with_reducible repeat first|apply Qb|apply Qe|apply Qc);exact ν.out) hb);have X:=Aside0.mk (Qj (by repeat(first|(with_reducible first|exact HB.out|apply Qg|apply Qd|apply Qf|refine Qa ?_ χ.out|refine Qa ?_ ψ.out)|exact HB.out)) hb);have δ :=Aside0.mk (hbox);have ξ :=Aside0.mk ((by rw[hg];exact(Qi (by repeat(first|(with_reducible first|exact HB.out|apply Qg|apply Qd|apply Qf|refine Qa ?_ χ.out|refine Qa ?_ ψ.out)|exact HB.out))):w.heap.size ≤ τ));have φ :=Aside0.mk ((by rw[hg];exact(Qi (by repeat(first|(with_reducible first|exact HB.out|apply Qg|apply Qd|apply Qf|refine Qa ?_ χ.out|refine Qa ?_ ψ.out)|exact HB.out))):w.heap.size ≤ τ));have ω :=Aside0.mk ((by rw[hg];exact Nat.ne_of_lt (Qp (g:= μ) (o:=.cells #[.int .i64 J,.int .i64 B,.int .i64 Y,.int .i64 Z,.int .i64 γ,.int .i64 ζ,.int .i64 ε,.int .i64 κ,.int .i64 ι,.int .i64 θ] 25 (0,0)) (by(with_reducible repeat first|apply Qb|apply Qe|apply Qc);exact η.out)): μ ≠ τ));have a6:=Aside0.mk ((by rw[hg];exact Nat.ne_of_gt (Qp (g:= μ) (o:=.cells #[.int .i64 J,.int .i64 B,.int .i64 Y,.int .i64 Z,.int .i64 γ,.int .i64 ζ,.int .i64 ε,.int .i64 κ,.int .i64 ι,.int .i64 θ] 25 (0,0)) (by(with_reducible repeat first|apply Qb|apply Qe|apply Qc);exact η.out)): τ ≠ μ));have a7:=Aside0.mk ((by rw[hg];exact Nat.ne_of_lt (Qp (g:=σ) (o:=.cells #[.slice a8 a4.length a9,.slice aa a3.length ab] 50 (0,0)) (by(with_reducible repeat first|apply Qb|apply Qe|apply Qc);exact ν.out)):σ ≠ τ));have ag:=Aside0.mk ((by rw[hg];exact Nat.ne_of_gt (Qp (g:=σ) (o:=.cells #[.slice a8 a4.length a9,.slice aa a3.length ab] 50 (0,0)) (by(with_reducible repeat first|apply Qb|apply Qe|apply Qc);exact ν.out)): τ ≠ σ));clear η;clear ν;clear HB;have η :=L;have ν :=O;have HB:=X;have ρ:= δ;have ax:= ξ;have a0:= φ;have aj:= ω;have al:=a6;have am:=a7;have an:=ag;clear L O X δ ξ φ ω a6 a7 ag;clear hb hbox hg;have gf:=ah.out;have gg:=ai.out;have ei:=aj.out;have ek:=al.out;obtain⟨b6,b7,bf,bg,cd,ci,co,d8,di,e4,b8,b9,bi,e5,e6,e7,e8,e9,ea,eb⟩:=Zh η.out;have cm:=am.out;have cz:=an.out;obtain⟨b1,b2,b3,ba⟩:=qD2 ν.out)|((with_reducible refine Qt (f:=17) rfl ?_);refine Q7 (some 16) rfl rfl Try.func17 kr rfl #[.agg #[.int .i64 J,.int .i64 B,.int .i64 Y,.int .i64 Z,.int .i64 γ,.int .i64 ζ,.int .i64 ε,.int .i64 κ,.int .i64 ι,.int .i64 θ],.slice A1 l1.length c1,.agg #[.slice a8 a4.length a9,.slice aa a3.length ab]] rfl (by(try simp only[List.map_toArray,List.map_cons,List.map_nil]);first|done|rfl|(simp only[List.length_drop,List.length_take];rfl)) ?_;(with_reducible refine(group_Check.calls k J B Y Z γ ζ ε κ ι θ _ _ l1 _ _ a4 _ _ a3 a1 _ ?side1 ?side2 ?side3 ?side4 ?side5 ?side6 A6.out).mono ?_);(case side1=>repeat(first|exact(Kd.Q0 df.out HB.out)|(with_reducible refine Kd.Q3 ?_ _)|(with_reducible refine Kd.Q2 ?_ _)|(with_reducible refine Kd.Q9 ?_)));(case side2=>exact dx.out);(case side3=>repeat(first|exact(Kd.Q0 br.out HB.out)|(with_reducible refine Kd.Q3 ?_ _)|(with_reducible refine Kd.Q2 ?_ _)|(with_reducible refine Kd.Q9 ?_)));(case side4=>exact cg.out);(case side5=>repeat(first|exact(Kd.Q0 ce.out HB.out)|(with_reducible refine Kd.Q3 ?_ _)|(with_reducible refine Kd.Q2 ?_ _)|(with_reducible refine Kd.Q9 ?_)));(case side6=>exact ch.out);rintro e dw ⟨rfl,hb⟩;refine⟨_,rfl, ?_⟩;have L:=Aside0.mk (Qh (g:= μ) (o:=.cells #[.int .i64 J,.int .i64 B,.int .i64 Y,.int .i64 Z,.int .i64 γ,.int .i64 ζ,.int .i64 ε,.int .i64 κ,.int .i64 ι,.int .i64 θ] 25 (0,0)) (by(with_reducible repeat first|apply Qb|apply Qe|apply Qc);exact η.out) hb);have O:=Aside0.mk (Qh (g:=σ) (o:=.cells #[.slice a8 a4.length a9,.slice aa a3.length ab] 50 (0,0)) (by(with_reducible repeat first|apply Qb|apply Qe|apply Qc);exact ν.out) hb);have X:=Aside0.mk (Qh (g:= τ) (o:=.cells #[.int .i64 ac,.int .i64 ae,.int .i64 af] 36 (0,0)) (by(with_reducible repeat first|apply Qb|apply Qe|apply Qc);exact ρ.out) hb);have δ :=Aside0.mk (Qj (by repeat(first|(with_reducible first|exact HB.out|apply Qg|apply Qd|apply Qf|refine Qa ?_ χ.out|refine Qa ?_ ψ.out|refine Qa ?_ a0.out)|exact HB.out)) hb);clear η;clear ν;clear ρ;clear HB;have η :=L;have ν :=O;have ρ:=X;have HB:= δ;clear L O X δ;(try clear hb);(try clear ak);(try clear hk);(try clear hi)))
   have L:=Aside0.mk (Qe η.out)
   have O:=Aside0.mk (Qe ν.out)
   have X:=Aside0.mk (Qe ρ.out)
   have δ :=Aside0.mk (Qf HB.out)
   clear η
   clear ν
   clear ρ
   clear HB
   have η :=L
   have ν :=O
   have ρ:=X
   have HB:= δ
   clear L O X δ
   refine Zv (n:=6) (S:=fun w'=>w'.cell? ⟨μ,0,none⟩=some (.int .i64 J)∧w'.cell? ⟨μ,1,none⟩=some (.int .i64 B)∧w'.cell? ⟨μ,2,none⟩=some (.int .i64 Y)∧w'.cell? ⟨μ,3,none⟩=some (.int .i64 Z)∧w'.cell? ⟨μ,4,none⟩=some (.int .i64 γ)∧w'.cell? ⟨μ,5,none⟩=some (.int .i64 ζ)∧w'.cell? ⟨μ,6,none⟩=some (.int .i64 ε)∧w'.cell? ⟨μ,7,none⟩=some (.int .i64 κ)∧w'.cell? ⟨μ,8,none⟩=some (.int .i64 ι)∧w'.cell? ⟨μ,9,none⟩=some (.int .i64 θ)∧w'.cell? ⟨τ,0,none⟩=some (.int .i64 ac)∧w'.cell? ⟨τ,1,none⟩=some (.int .i64 ae)∧w'.cell? ⟨τ,2,none⟩=some (.int .i64 af)) (ds:=[]) #[false,false,false,false,false,false] kr rfl rfl ⟨(Qk η.out 0).trans rfl,(Qk η.out 1).trans rfl,(Qk η.out 2).trans rfl,(Qk η.out 3).trans rfl,(Qk η.out 4).trans rfl,(Qk η.out 5).trans rfl,(Qk η.out 6).trans rfl,(Qk η.out 7).trans rfl,(Qk η.out 8).trans rfl,(Qk η.out 9).trans rfl,(Qk ρ.out 0).trans rfl,(Qk ρ.out 1).trans rfl,(Qk ρ.out 2).trans rfl⟩ (fun hHeld=>?_)
   generalize dw.drew=bn at η ν ρ HB hHeld ⊢
   refine X0 (i:=1) (N:=some 21) (v:=?_) (a':=?_) #[false,true,false,false,false,false] rfl rfl kr (fun _ _ _ h=>h) (Or.inl ⟨by rfl, ?_⟩) ?_ ?_
   rotate_left
   ·intro w'
    go_simp
    with_reducible rfl
   rotate_left
   ·simp only[Act.put,qS,Zi,Zt]
    rfl
   refine Y8 (i:=0) (N:=some 20) (v:=?_) (a':=?_) #[true,true,false,false,false,false] rfl rfl kr (fun _ _ _ h=>h) (Or.inl ⟨by rfl, ?_⟩) hHeld ?_ ?_
   rotate_left
   ·rintro w' ⟨s0,s1,s2,s3,s4,s5,s6,s7,s8,s9,cb,cu,ay⟩
    go_simp
    with_reducible rfl
   rotate_left
   ·simp only[Act.put,qS,Zi,Zt]
    rfl
   refine Y8 (i:=3) (N:=some 23) (v:=?_) (a':=?_) #[true,true,false,true,false,false] rfl rfl kr (fun _ _ _ h=>h) (Or.inl ⟨by rfl, ?_⟩) hHeld ?_ ?_
   rotate_left
   ·rintro w' ⟨s0,s1,s2,s3,s4,s5,s6,s7,s8,s9,cb,cu,ay⟩
    go_simp
    with_reducible rfl
   rotate_left
   ·simp only[Act.put,qS,Zi,Zt]
    rfl
   refine Zn (i:=2) (N:=some 22) #[true,true,true,true,false,false] rfl rfl kr (by decide) (fun K hK=>?_)
   refine Zm Try.func37 kr rfl #[.agg #[.int .i64 J,.int .i64 B,.int .i64 Y,.int .i64 Z,.int .i64 γ,.int .i64 ζ,.int .i64 ε,.int .i64 κ,.int .i64 ι,.int .i64 θ],.slice A1 l1.length c1] (by rfl) rfl rfl (by(try simp only[List.map_toArray,List.map_cons,List.map_nil]);first|done|rfl|(simp only[List.length_drop,List.length_take];rfl)) ?_
   with_reducible refine(group_house.calls J B Y Z γ ζ ε κ ι θ _ _ l1 ar au _ ?side1 ?side2 A8.out).mono ?_
   (case side1=>repeat(first|exact(Kd.Q0 df.out HB.out)|(with_reducible refine Kd.Q3 ?_ _)|(with_reducible refine Kd.Q2 ?_ _)|(with_reducible refine Kd.Q9 ?_)))
   (case side2=>exact dx.out)
   rintro e bm ⟨rfl,hb⟩
   refine⟨_,rfl, ?_⟩
   have L:=Aside0.mk (Qh (g:= μ) (o:=.cells #[.int .i64 J,.int .i64 B,.int .i64 Y,.int .i64 Z,.int .i64 γ,.int .i64 ζ,.int .i64 ε,.int .i64 κ,.int .i64 ι,.int .i64 θ] 25 (0,0)) (by(with_reducible repeat first|apply Qb|apply Qe|apply Qc);exact η.out) hb)
   have O:=Aside0.mk (Qh (g:=σ) (o:=.cells #[.slice a8 a4.length a9,.slice aa a3.length ab] 50 (0,0)) (by(with_reducible repeat first|apply Qb|apply Qe|apply Qc);exact ν.out) hb)
   have X:=Aside0.mk (Qh (g:= τ) (o:=.cells #[.int .i64 ac,.int .i64 ae,.int .i64 af] 36 (0,0)) (by(with_reducible repeat first|apply Qb|apply Qe|apply Qc);exact ρ.out) hb)
   have δ :=Aside0.mk (Qj (by repeat(first|(with_reducible first|exact HB.out|apply Qg|apply Qd|apply Qf|refine Qa ?_ χ.out|refine Qa ?_ ψ.out|refine Qa ?_ a0.out)|exact HB.out)) hb)
   clear η
   clear ν
   clear ρ
   clear HB
   have η :=L
   have ν :=O
   have ρ:=X
   have HB:= δ
   clear L O X δ
   (try clear hb)
   (try clear ak)
   (try clear hk)
   (try clear hi)
   refine hK.out _ _ ⟨qc η,qc η,qc η,qc η,qc η,qc η,qc η,qc η,qc η,qc η,qc ρ,qc ρ,qc ρ⟩ (fun hHeld=>?_)
   clear hK K
   refine qN (some 22) ?_
   refine Zn (i:=4) (N:=some 24) #[true,true,true,true,true,false] rfl rfl kr (by decide) (fun K hK=>?_)
   refine Zm Try.func30 kr rfl #[.agg #[.int .i64 ar,.int .i64 au],.agg #[.int .i64 ac,.int .i64 ae,.int .i64 af]] (by rfl) rfl rfl (by(try simp only[List.map_toArray,List.map_cons,List.map_nil]);first|done|rfl|(simp only[List.length_drop,List.length_take];rfl)) ?_
   with_reducible refine(group_hall.calls k ar au ac ae af true _ A9.out).mono ?_
   rintro e bl ⟨rfl,hb⟩
   refine⟨_,rfl, ?_⟩
   have L:=Aside0.mk (Qh (g:= μ) (o:=.cells #[.int .i64 J,.int .i64 B,.int .i64 Y,.int .i64 Z,.int .i64 γ,.int .i64 ζ,.int .i64 ε,.int .i64 κ,.int .i64 ι,.int .i64 θ] 25 (0,0)) (by(with_reducible repeat first|apply Qb|apply Qe|apply Qc);exact η.out) hb)
   have O:=Aside0.mk (Qh (g:=σ) (o:=.cells #[.slice a8 a4.length a9,.slice aa a3.length ab] 50 (0,0)) (by(with_reducible repeat first|apply Qb|apply Qe|apply Qc);exact ν.out) hb)
   have X:=Aside0.mk (Qh (g:= τ) (o:=.cells #[.int .i64 ac,.int .i64 ae,.int .i64 af] 36 (0,0)) (by(with_reducible repeat first|apply Qb|apply Qe|apply Qc);exact ρ.out) hb)
   have δ :=Aside0.mk (Qj (by repeat(first|(with_reducible first|exact HB.out|apply Qg|apply Qd|apply Qf|refine Qa ?_ χ.out|refine Qa ?_ ψ.out|refine Qa ?_ a0.out)|exact HB.out)) hb)
   clear η
   clear ν
   clear ρ
   clear HB
   have η :=L
   have ν :=O
   have ρ:=X
   have HB:= δ
   clear L O X δ
   (try clear hb)
   (try clear ak)
   (try clear hk)
   (try clear hi)
   refine hK.out _ _ ⟨qc η,qc η,qc η,qc η,qc η,qc η,qc η,qc η,qc η,qc η,qc ρ,qc ρ,qc ρ⟩ (fun hHeld=>?_)
   clear hK K
   refine qN (some 24) ?_
   refine X0 (i:=5) (N:=some 25) (v:=?_) (a':=?_) #[true,true,true,true,true,true] rfl rfl kr (fun _ _ _ h=>h) (Or.inl ⟨by rfl, ?_⟩) ?_ ?_
   rotate_left
   ·intro w'
    go_simp
    with_reducible rfl
   rotate_left
   ·simp only[Act.put,qS,Zi,Zt]
    rfl
   refine Xd kr ?_
   obtain⟨bo,bp,cj,d7,ff,fm,fn,fo,fp,fq,bq,bs,ck,fr,g7,gb,ge,gj,gl,gm⟩:=Zh η.out
   obtain⟨en,er,et,eu⟩:=qD2 ν.out
   obtain⟨em,ev,fg,ez,f8,fh⟩:=qD3 ρ.out
   try go_wp2_with (first|((with_reducible refine Qt (f:=38) rfl ?_);refine Q7 (some 31) rfl rfl Try.func38 kr rfl #[.agg #[.int .i64 J,.int .i64 B,.int .i64 Y,.int .i64 Z,.int .i64 γ,.int .i64 ζ,.int .i64 ε,.int .i64 κ,.int .i64 ι,.int .i64 θ],.slice A1 l1.length c1,.int .i64 a2,.agg #[.slice a8 a4.length a9,.slice aa a3.length ab],.agg #[.int .i64 ac,.int .i64 ae,.int .i64 af]] rfl (by(try simp only[List.map_toArray,List.map_cons,List.map_nil]);first|done|rfl|(simp only[List.length_drop,List.length_take];rfl)) ?_;(with_reducible refine(group_pick.calls k J B Y Z γ ζ ε κ ι θ _ _ l1 a2 _ _ a4 _ _ a3 ac ae af a5 _ ?side1 ?side2 ?side3 ?side4 ?side5 ?side6 eg.out).mono ?_);(case side1=>repeat(first|exact(Kd.Q0 df.out HB.out)|(with_reducible refine Kd.Q3 ?_ _)|(with_reducible refine Kd.Q2 ?_ _)|(with_reducible refine Kd.Q9 ?_)));(case side2=>exact dx.out);(case side3=>repeat(first|exact(Kd.Q0 br.out HB.out)|(with_reducible refine Kd.Q3 ?_ _)|(with_reducible refine Kd.Q2 ?_ _)|(with_reducible refine Kd.Q9 ?_)));(case side4=>exact cg.out);(case side5=>repeat(first|exact(Kd.Q0 ce.out HB.out)|(with_reducible refine Kd.Q3 ?_ _)|(with_reducible refine Kd.Q2 ?_ _)|(with_reducible refine Kd.Q9 ?_)));(case side6=>exact ch.out);rintro e dn ⟨rfl,hb⟩;refine⟨_,rfl, ?_⟩;have L:=Aside0.mk (Qh (g:= μ) (o:=.cells #[.int .i64 J,.int .i64 B,.int .i64 Y,.int .i64 Z,.int .i64 γ,.int .i64 ζ,.int .i64 ε,.int .i64 κ,.int .i64 ι,.int .i64 θ] 25 (0,0)) (by(with_reducible repeat first|apply Qb|apply Qe|apply Qc);exact η.out) hb);have O:=Aside0.mk (Qh (g:=σ) (o:=.cells #[.slice a8 a4.length a9,.slice aa a3.length ab] 50 (0,0)) (by(with_reducible repeat first|apply Qb|apply Qe|apply Qc);exact ν.out) hb);have X:=Aside0.mk (Qh (g:= τ) (o:=.cells #[.int .i64 ac,.int .i64 ae,.int .i64 af] 36 (0,0)) (by(with_reducible repeat first|apply Qb|apply Qe|apply Qc);exact ρ.out) hb);have δ :=Aside0.mk (Qj (by repeat(first|(with_reducible first|exact HB.out|apply Qg|apply Qd|apply Qf|refine Qa ?_ χ.out|refine Qa ?_ ψ.out|refine Qa ?_ a0.out)|exact HB.out)) hb);clear η;clear ν;clear ρ;clear HB;have η :=L;have ν :=O;have ρ:=X;have HB:= δ;clear L O X δ;(try clear hb);(try clear ak);(try clear hk);(try clear hi)))
   go_ret2
   exact⟨by first|rfl|(simp[Qo,Qn] <;> rfl)|(simp[*,Qo,Qn] <;> rfl),by repeat(first|(with_reducible first|exact HB.out|apply Qg|apply Qd|apply Qf|refine Qa ?_ χ.out|refine Qa ?_ ψ.out|refine Qa ?_ a0.out)|exact HB.out)⟩
  ·replace c10:=Bool.eq_false_iff.mpr c10
   subst c10
   have H1:(some (0,210))=some (r1,r2):=by rw[if_neg (show ¬ (false=true) by decide)] at H;exact H
   clear H
   have H:=H1
   clear H1
   simp only[Option.some.injEq,Prod.mk.injEq] at H
   obtain⟨rfl,rfl⟩:=H
   go_enter Try.func14,Try.ntmps14
   try go_wp2_with (first|((with_reducible refine Qr (N:=5) rfl ?_);refine Qq ?hg (N:=5) ?hd (cs:=#[.int .i64 J,.int .i64 B,.int .i64 Y,.int .i64 Z,.int .i64 γ,.int .i64 ζ,.int .i64 ε,.int .i64 κ,.int .i64 ι,.int .i64 θ]) (t:=25) ?hr ?_;(case hd=>rfl);(case hg=>rfl);(case hr=>first|(go_simp;done)|(go_simp;rfl));intro μ hg eh hbox hb;have L:=Aside0.mk (Qj (by repeat(first|(with_reducible first|exact HB.out|apply Qg|apply Qd|apply Qf)|exact HB.out)) hb);have O:=Aside0.mk (hbox);have X:=Aside0.mk ((by rw[hg];exact(Qi (by repeat(first|(with_reducible first|exact HB.out|apply Qg|apply Qd|apply Qf)|exact HB.out))):w.heap.size ≤ μ));have δ :=Aside0.mk ((by rw[hg];exact(Qi (by repeat(first|(with_reducible first|exact HB.out|apply Qg|apply Qd|apply Qf)|exact HB.out))):w.heap.size ≤ μ));clear HB;have HB:=L;have η :=O;have av:=X;have χ := δ;clear L O X δ;clear hb hbox hg)|((with_reducible refine Qr (N:=8) rfl ?_);refine Qq ?hg (N:=8) ?hd (cs:=#[.slice a8 a4.length a9,.slice aa a3.length ab]) (t:=50) ?hr ?_;(case hd=>rfl);(case hg=>rfl);(case hr=>first|(go_simp;done)|(go_simp;rfl));intro σ hg d9 hbox hb;have L:=Aside0.mk (Qh (g:= μ) (o:=.cells #[.int .i64 J,.int .i64 B,.int .i64 Y,.int .i64 Z,.int .i64 γ,.int .i64 ζ,.int .i64 ε,.int .i64 κ,.int .i64 ι,.int .i64 θ] 25 (0,0)) (by(with_reducible repeat first|apply Qb|apply Qe|apply Qc);exact η.out) hb);have O:=Aside0.mk (Qj (by repeat(first|(with_reducible first|exact HB.out|apply Qg|apply Qd|apply Qf|refine Qa ?_ χ.out)|exact HB.out)) hb);have X:=Aside0.mk (hbox);have δ :=Aside0.mk ((by rw[hg];exact(Qi (by repeat(first|(with_reducible first|exact HB.out|apply Qg|apply Qd|apply Qf|refine Qa ?_ χ.out)|exact HB.out))):w.heap.size≤σ));have ξ :=Aside0.mk ((by rw[hg];exact(Qi (by repeat(first|(with_reducible first|exact HB.out|apply Qg|apply Qd|apply Qf|refine Qa ?_ χ.out)|exact HB.out))):w.heap.size≤σ));have φ :=Aside0.mk ((by rw[hg];exact Nat.ne_of_lt (Qp (g:= μ) (o:=.cells #[.int .i64 J,.int .i64 B,.int .i64 Y,.int .i64 Z,.int .i64 γ,.int .i64 ζ,.int .i64 ε,.int .i64 κ,.int .i64 ι,.int .i64 θ] 25 (0,0)) (by(with_reducible repeat first|apply Qb|apply Qe|apply Qc);exact η.out)): μ ≠ σ));have ω :=Aside0.mk ((by rw[hg];exact Nat.ne_of_gt (Qp (g:= μ) (o:=.cells #[.int .i64 J,.int .i64 B,.int .i64 Y,.int .i64 Z,.int .i64 γ,.int .i64 ζ,.int .i64 ε,.int .i64 κ,.int .i64 ι,.int .i64 θ] 25 (0,0)) (by(with_reducible repeat first|apply Qb|apply Qe|apply Qc);exact η.out)):σ ≠ μ));clear η;clear HB;have η :=L;have HB:=O;have ν :=X;have aw:= δ;have ψ := ξ;have ah:= φ;have ai:= ω;clear L O X δ ξ φ ω;clear hb hbox hg)|((with_reducible refine Qr (N:=9) rfl ?_);refine Qq ?hg (N:=9) ?hd (cs:=#[.int .i64 ac,.int .i64 ae,.int .i64 af]) (t:=36) ?hr ?_;(case hd=>rfl);(case hg=>rfl);(case hr=>first|(go_simp;done)|(go_simp;rfl));intro τ hg ep hbox hb;have L:=Aside0.mk (Qh (g:= μ) (o:=.cells #[.int .i64 J,.int .i64 B,.int .i64 Y,.int .i64 Z,.int .i64 γ,.int .i64 ζ,.int .i64 ε,.int .i64 κ,.int .i64 ι,.int .i64 θ] 25 (0,0)) (by(with_reducible repeat first|apply Qb|apply Qe|apply Qc);exact η.out) hb);have O:=Aside0.mk (Qh (g:=σ) (o:=.cells #[.slice a8 a4.length a9,.slice aa a3.length ab] 50 (0,0)) (by(with_reducible repeat first|apply Qb|apply Qe|apply Qc);exact ν.out) hb);have X:=Aside0.mk (Qj (by repeat(first|(with_reducible first|exact HB.out|apply Qg|apply Qd|apply Qf|refine Qa ?_ χ.out|refine Qa ?_ ψ.out)|exact HB.out)) hb);have δ :=Aside0.mk (hbox);have ξ :=Aside0.mk ((by rw[hg];exact(Qi (by repeat(first|(with_reducible first|exact HB.out|apply Qg|apply Qd|apply Qf|refine Qa ?_ χ.out|refine Qa ?_ ψ.out)|exact HB.out))):w.heap.size ≤ τ));have φ :=Aside0.mk ((by rw[hg];exact(Qi (by repeat(first|(with_reducible first|exact HB.out|apply Qg|apply Qd|apply Qf|refine Qa ?_ χ.out|refine Qa ?_ ψ.out)|exact HB.out))):w.heap.size ≤ τ));have ω :=Aside0.mk ((by rw[hg];exact Nat.ne_of_lt (Qp (g:= μ) (o:=.cells #[.int .i64 J,.int .i64 B,.int .i64 Y,.int .i64 Z,.int .i64 γ,.int .i64 ζ,.int .i64 ε,.int .i64 κ,.int .i64 ι,.int .i64 θ] 25 (0,0)) (by(with_reducible repeat first|apply Qb|apply Qe|apply Qc);exact η.out)): μ ≠ τ));have a6:=Aside0.mk ((by rw[hg];exact Nat.ne_of_gt (Qp (g:= μ) (o:=.cells #[.int .i64 J,.int .i64 B,.int .i64 Y,.int .i64 Z,.int .i64 γ,.int .i64 ζ,.int .i64 ε,.int .i64 κ,.int .i64 ι,.int .i64 θ] 25 (0,0)) (by(with_reducible repeat first|apply Qb|apply Qe|apply Qc);exact η.out)): τ ≠ μ));have a7:=Aside0.mk ((by rw[hg];exact Nat.ne_of_lt (Qp (g:=σ) (o:=.cells #[.slice a8 a4.length a9,.slice aa a3.length ab] 50 (0,0)) (by(with_reducible repeat first|apply Qb|apply Qe|apply Qc);exact ν.out)):σ ≠ τ));have ag:=Aside0.mk ((by rw[hg];exact Nat.ne_of_gt (Qp (g:=σ) (o:=.cells #[.slice a8 a4.length a9,.slice aa a3.length ab] 50 (0,0)) (by(with_reducible repeat first|apply Qb|apply Qe|apply Qc);exact ν.out)): τ ≠ σ));clear η;clear ν;clear HB;have η :=L;have ν :=O;have HB:=X;have ρ:= δ;have ax:= ξ;have a0:= φ;have aj:= ω;have al:=a6;have am:=a7;have an:=ag;clear L O X δ ξ φ ω a6 a7 ag;clear hb hbox hg;have h8:=ah.out;have h9:=ai.out;have g3:=aj.out;have gt:=al.out;obtain⟨de,dy,e3,fw,fx,g4,g5,cq,cr,ct,dz,e0,ej,g9,ga,gh,gi,cv,cw,cx⟩:=Zh η.out;have kv:=am.out;have kw:=an.out;obtain⟨eo,ey,ft,g2⟩:=qD2 ν.out)|((with_reducible refine Qt (f:=17) rfl ?_);refine Q7 (some 16) rfl rfl Try.func17 kr rfl #[.agg #[.int .i64 J,.int .i64 B,.int .i64 Y,.int .i64 Z,.int .i64 γ,.int .i64 ζ,.int .i64 ε,.int .i64 κ,.int .i64 ι,.int .i64 θ],.slice A1 l1.length c1,.agg #[.slice a8 a4.length a9,.slice aa a3.length ab]] rfl (by(try simp only[List.map_toArray,List.map_cons,List.map_nil]);first|done|rfl|(simp only[List.length_drop,List.length_take];rfl)) ?_;(with_reducible refine(group_Check.calls k J B Y Z γ ζ ε κ ι θ _ _ l1 _ _ a4 _ _ a3 a1 _ ?side1 ?side2 ?side3 ?side4 ?side5 ?side6 A6.out).mono ?_);(case side1=>repeat(first|exact(Kd.Q0 df.out HB.out)|(with_reducible refine Kd.Q3 ?_ _)|(with_reducible refine Kd.Q2 ?_ _)|(with_reducible refine Kd.Q9 ?_)));(case side2=>exact dx.out);(case side3=>repeat(first|exact(Kd.Q0 br.out HB.out)|(with_reducible refine Kd.Q3 ?_ _)|(with_reducible refine Kd.Q2 ?_ _)|(with_reducible refine Kd.Q9 ?_)));(case side4=>exact cg.out);(case side5=>repeat(first|exact(Kd.Q0 ce.out HB.out)|(with_reducible refine Kd.Q3 ?_ _)|(with_reducible refine Kd.Q2 ?_ _)|(with_reducible refine Kd.Q9 ?_)));(case side6=>exact ch.out);rintro e g8 ⟨rfl,hb⟩;refine⟨_,rfl, ?_⟩;have L:=Aside0.mk (Qh (g:= μ) (o:=.cells #[.int .i64 J,.int .i64 B,.int .i64 Y,.int .i64 Z,.int .i64 γ,.int .i64 ζ,.int .i64 ε,.int .i64 κ,.int .i64 ι,.int .i64 θ] 25 (0,0)) (by(with_reducible repeat first|apply Qb|apply Qe|apply Qc);exact η.out) hb);have O:=Aside0.mk (Qh (g:=σ) (o:=.cells #[.slice a8 a4.length a9,.slice aa a3.length ab] 50 (0,0)) (by(with_reducible repeat first|apply Qb|apply Qe|apply Qc);exact ν.out) hb);have X:=Aside0.mk (Qh (g:= τ) (o:=.cells #[.int .i64 ac,.int .i64 ae,.int .i64 af] 36 (0,0)) (by(with_reducible repeat first|apply Qb|apply Qe|apply Qc);exact ρ.out) hb);have δ :=Aside0.mk (Qj (by repeat(first|(with_reducible first|exact HB.out|apply Qg|apply Qd|apply Qf|refine Qa ?_ χ.out|refine Qa ?_ ψ.out|refine Qa ?_ a0.out)|exact HB.out)) hb);clear η;clear ν;clear ρ;clear HB;have η :=L;have ν :=O;have ρ:=X;have HB:= δ;clear L O X δ;(try clear hb);(try clear ak);(try clear hk);(try clear hi)))
   have L:=Aside0.mk (Qe η.out)
   have O:=Aside0.mk (Qe ν.out)
   have X:=Aside0.mk (Qe ρ.out)
   have δ :=Aside0.mk (Qf HB.out)
   clear η
   clear ν
   clear ρ
   clear HB
   have η :=L
   have ν :=O
   have ρ:=X
   have HB:= δ
   clear L O X δ
   refine Zv (n:=6) (S:=fun w'=>w'.cell? ⟨μ,0,none⟩=some (.int .i64 J)∧w'.cell? ⟨μ,1,none⟩=some (.int .i64 B)∧w'.cell? ⟨μ,2,none⟩=some (.int .i64 Y)∧w'.cell? ⟨μ,3,none⟩=some (.int .i64 Z)∧w'.cell? ⟨μ,4,none⟩=some (.int .i64 γ)∧w'.cell? ⟨μ,5,none⟩=some (.int .i64 ζ)∧w'.cell? ⟨μ,6,none⟩=some (.int .i64 ε)∧w'.cell? ⟨μ,7,none⟩=some (.int .i64 κ)∧w'.cell? ⟨μ,8,none⟩=some (.int .i64 ι)∧w'.cell? ⟨μ,9,none⟩=some (.int .i64 θ)∧w'.cell? ⟨τ,0,none⟩=some (.int .i64 ac)∧w'.cell? ⟨τ,1,none⟩=some (.int .i64 ae)∧w'.cell? ⟨τ,2,none⟩=some (.int .i64 af)) (ds:=[]) #[false,false,false,false,false,false] kr rfl rfl ⟨(Qk η.out 0).trans rfl,(Qk η.out 1).trans rfl,(Qk η.out 2).trans rfl,(Qk η.out 3).trans rfl,(Qk η.out 4).trans rfl,(Qk η.out 5).trans rfl,(Qk η.out 6).trans rfl,(Qk η.out 7).trans rfl,(Qk η.out 8).trans rfl,(Qk η.out 9).trans rfl,(Qk ρ.out 0).trans rfl,(Qk ρ.out 1).trans rfl,(Qk ρ.out 2).trans rfl⟩ (fun hHeld=>?_)
   generalize g8.drew=io at η ν ρ HB hHeld ⊢
   refine X0 (i:=1) (N:=some 21) (v:=?_) (a':=?_) #[false,true,false,false,false,false] rfl rfl kr (fun _ _ _ h=>h) (Or.inl ⟨by rfl, ?_⟩) ?_ ?_
   rotate_left
   ·intro w'
    go_simp
    with_reducible rfl
   rotate_left
   ·simp only[Act.put,qS,Zi,Zt]
    rfl
   refine Y8 (i:=0) (N:=some 20) (v:=?_) (a':=?_) #[true,true,false,false,false,false] rfl rfl kr (fun _ _ _ h=>h) (Or.inl ⟨by rfl, ?_⟩) hHeld ?_ ?_
   rotate_left
   ·rintro w' ⟨s0,s1,s2,s3,s4,s5,s6,s7,s8,s9,cb,cu,ay⟩
    go_simp
    with_reducible rfl
   rotate_left
   ·simp only[Act.put,qS,Zi,Zt]
    rfl
   refine Y8 (i:=3) (N:=some 23) (v:=?_) (a':=?_) #[true,true,false,true,false,false] rfl rfl kr (fun _ _ _ h=>h) (Or.inl ⟨by rfl, ?_⟩) hHeld ?_ ?_
   rotate_left
   ·rintro w' ⟨s0,s1,s2,s3,s4,s5,s6,s7,s8,s9,cb,cu,ay⟩
    go_simp
    with_reducible rfl
   rotate_left
   ·simp only[Act.put,qS,Zi,Zt]
    rfl
   refine Zn (i:=2) (N:=some 22) #[true,true,true,true,false,false] rfl rfl kr (by decide) (fun K hK=>?_)
   refine Zm Try.func37 kr rfl #[.agg #[.int .i64 J,.int .i64 B,.int .i64 Y,.int .i64 Z,.int .i64 γ,.int .i64 ζ,.int .i64 ε,.int .i64 κ,.int .i64 ι,.int .i64 θ],.slice A1 l1.length c1] (by rfl) rfl rfl (by(try simp only[List.map_toArray,List.map_cons,List.map_nil]);first|done|rfl|(simp only[List.length_drop,List.length_take];rfl)) ?_
   with_reducible refine(group_house.calls J B Y Z γ ζ ε κ ι θ _ _ l1 ar au _ ?side1 ?side2 A8.out).mono ?_
   (case side1=>repeat(first|exact(Kd.Q0 df.out HB.out)|(with_reducible refine Kd.Q3 ?_ _)|(with_reducible refine Kd.Q2 ?_ _)|(with_reducible refine Kd.Q9 ?_)))
   (case side2=>exact dx.out)
   rintro e kq ⟨rfl,hb⟩
   refine⟨_,rfl, ?_⟩
   have L:=Aside0.mk (Qh (g:= μ) (o:=.cells #[.int .i64 J,.int .i64 B,.int .i64 Y,.int .i64 Z,.int .i64 γ,.int .i64 ζ,.int .i64 ε,.int .i64 κ,.int .i64 ι,.int .i64 θ] 25 (0,0)) (by(with_reducible repeat first|apply Qb|apply Qe|apply Qc);exact η.out) hb)
   have O:=Aside0.mk (Qh (g:=σ) (o:=.cells #[.slice a8 a4.length a9,.slice aa a3.length ab] 50 (0,0)) (by(with_reducible repeat first|apply Qb|apply Qe|apply Qc);exact ν.out) hb)
   have X:=Aside0.mk (Qh (g:= τ) (o:=.cells #[.int .i64 ac,.int .i64 ae,.int .i64 af] 36 (0,0)) (by(with_reducible repeat first|apply Qb|apply Qe|apply Qc);exact ρ.out) hb)
   have δ :=Aside0.mk (Qj (by repeat(first|(with_reducible first|exact HB.out|apply Qg|apply Qd|apply Qf|refine Qa ?_ χ.out|refine Qa ?_ ψ.out|refine Qa ?_ a0.out)|exact HB.out)) hb)
   clear η
   clear ν
   clear ρ
   clear HB
   have η :=L
   have ν :=O
   have ρ:=X
   have HB:= δ
   clear L O X δ
   (try clear hb)
   (try clear ak)
   (try clear hk)
   (try clear hi)
   refine hK.out _ _ ⟨qc η,qc η,qc η,qc η,qc η,qc η,qc η,qc η,qc η,qc η,qc ρ,qc ρ,qc ρ⟩ (fun hHeld=>?_)
   clear hK K
   refine qN (some 22) ?_
   refine Zn (i:=4) (N:=some 24) #[true,true,true,true,true,false] rfl rfl kr (by decide) (fun K hK=>?_)
   refine Zm Try.func30 kr rfl #[.agg #[.int .i64 ar,.int .i64 au],.agg #[.int .i64 ac,.int .i64 ae,.int .i64 af]] (by rfl) rfl rfl (by(try simp only[List.map_toArray,List.map_cons,List.map_nil]);first|done|rfl|(simp only[List.length_drop,List.length_take];rfl)) ?_
   with_reducible refine(group_hall.calls k ar au ac ae af false _ A9.out).mono ?_
   rintro e ii ⟨rfl,hb⟩
   refine⟨_,rfl, ?_⟩
   have L:=Aside0.mk (Qh (g:= μ) (o:=.cells #[.int .i64 J,.int .i64 B,.int .i64 Y,.int .i64 Z,.int .i64 γ,.int .i64 ζ,.int .i64 ε,.int .i64 κ,.int .i64 ι,.int .i64 θ] 25 (0,0)) (by(with_reducible repeat first|apply Qb|apply Qe|apply Qc);exact η.out) hb)
   have O:=Aside0.mk (Qh (g:=σ) (o:=.cells #[.slice a8 a4.length a9,.slice aa a3.length ab] 50 (0,0)) (by(with_reducible repeat first|apply Qb|apply Qe|apply Qc);exact ν.out) hb)
   have X:=Aside0.mk (Qh (g:= τ) (o:=.cells #[.int .i64 ac,.int .i64 ae,.int .i64 af] 36 (0,0)) (by(with_reducible repeat first|apply Qb|apply Qe|apply Qc);exact ρ.out) hb)
   have δ :=Aside0.mk (Qj (by repeat(first|(with_reducible first|exact HB.out|apply Qg|apply Qd|apply Qf|refine Qa ?_ χ.out|refine Qa ?_ ψ.out|refine Qa ?_ a0.out)|exact HB.out)) hb)
   clear η
   clear ν
   clear ρ
   clear HB
   have η :=L
   have ν :=O
   have ρ:=X
   have HB:= δ
   clear L O X δ
   (try clear hb)
   (try clear ak)
   (try clear hk)
   (try clear hi)
   refine hK.out _ _ ⟨qc η,qc η,qc η,qc η,qc η,qc η,qc η,qc η,qc η,qc η,qc ρ,qc ρ,qc ρ⟩ (fun hHeld=>?_)
   clear hK K
   refine qN (some 24) ?_
   refine X0 (i:=5) (N:=some 25) (v:=?_) (a':=?_) #[true,true,true,true,true,true] rfl rfl kr (fun _ _ _ h=>h) (Or.inl ⟨by rfl, ?_⟩) ?_ ?_
   rotate_left
   ·intro w'
    go_simp
    with_reducible rfl
   rotate_left
   ·simp only[Act.put,qS,Zi,Zt]
    rfl
   refine Xd kr ?_
   try go_wp2
   go_ret2
   exact⟨by first|rfl|(simp[Qo,Qn] <;> rfl)|(simp[*,Qo,Qn] <;> rfl),by repeat(first|(with_reducible first|exact HB.out|apply Qg|apply Qd|apply Qf|refine Qa ?_ χ.out|refine Qa ?_ ψ.out|refine Qa ?_ a0.out)|exact HB.out)⟩
 ·rw[if_neg c7] at H
  have c7b0:(a1==0)=false:=beq_eq_false_iff_ne.mpr c7
  have c7b1:(a1 != 0)=true:=bne_iff_ne.mpr c7
  simp only[Option.some.injEq,Prod.mk.injEq] at H
  obtain⟨rfl,rfl⟩:=H
  go_enter Try.func14,Try.ntmps14
  go_wp2_with (first|((with_reducible refine Qr (N:=5) rfl ?_);refine Qq ?hg (N:=5) ?hd (cs:=#[.int .i64 J,.int .i64 B,.int .i64 Y,.int .i64 Z,.int .i64 γ,.int .i64 ζ,.int .i64 ε,.int .i64 κ,.int .i64 ι,.int .i64 θ]) (t:=25) ?hr ?_;(case hd=>rfl);(case hg=>rfl);(case hr=>first|(go_simp;done)|(go_simp;rfl));intro μ hg kd hbox hb;have L:=Aside0.mk (Qj (by repeat(first|(with_reducible first|exact HB.out|apply Qg|apply Qd|apply Qf)|exact HB.out)) hb);have O:=Aside0.mk (hbox);have X:=Aside0.mk ((by rw[hg];exact(Qi (by repeat(first|(with_reducible first|exact HB.out|apply Qg|apply Qd|apply Qf)|exact HB.out))):w.heap.size ≤ μ));have δ :=Aside0.mk ((by rw[hg];exact(Qi (by repeat(first|(with_reducible first|exact HB.out|apply Qg|apply Qd|apply Qf)|exact HB.out))):w.heap.size ≤ μ));clear HB;have HB:=L;have η :=O;have av:=X;have χ := δ;clear L O X δ;clear hb hbox hg)|((with_reducible refine Qr (N:=8) rfl ?_);refine Qq ?hg (N:=8) ?hd (cs:=#[.slice a8 a4.length a9,.slice aa a3.length ab]) (t:=50) ?hr ?_;(case hd=>rfl);(case hg=>rfl);(case hr=>first|(go_simp;done)|(go_simp;rfl));intro σ hg az hbox hb;have L:=Aside0.mk (Qh (g:= μ) (o:=.cells #[.int .i64 J,.int .i64 B,.int .i64 Y,.int .i64 Z,.int .i64 γ,.int .i64 ζ,.int .i64 ε,.int .i64 κ,.int .i64 ι,.int .i64 θ] 25 (0,0)) (by(with_reducible repeat first|apply Qb|apply Qe|apply Qc);exact η.out) hb);have O:=Aside0.mk (Qj (by repeat(first|(with_reducible first|exact HB.out|apply Qg|apply Qd|apply Qf|refine Qa ?_ χ.out)|exact HB.out)) hb);have X:=Aside0.mk (hbox);have δ :=Aside0.mk ((by rw[hg];exact(Qi (by repeat(first|(with_reducible first|exact HB.out|apply Qg|apply Qd|apply Qf|refine Qa ?_ χ.out)|exact HB.out))):w.heap.size≤σ));have ξ :=Aside0.mk ((by rw[hg];exact(Qi (by repeat(first|(with_reducible first|exact HB.out|apply Qg|apply Qd|apply Qf|refine Qa ?_ χ.out)|exact HB.out))):w.heap.size≤σ));have φ :=Aside0.mk ((by rw[hg];exact Nat.ne_of_lt (Qp (g:= μ) (o:=.cells #[.int .i64 J,.int .i64 B,.int .i64 Y,.int .i64 Z,.int .i64 γ,.int .i64 ζ,.int .i64 ε,.int .i64 κ,.int .i64 ι,.int .i64 θ] 25 (0,0)) (by(with_reducible repeat first|apply Qb|apply Qe|apply Qc);exact η.out)): μ ≠ σ));have ω :=Aside0.mk ((by rw[hg];exact Nat.ne_of_gt (Qp (g:= μ) (o:=.cells #[.int .i64 J,.int .i64 B,.int .i64 Y,.int .i64 Z,.int .i64 γ,.int .i64 ζ,.int .i64 ε,.int .i64 κ,.int .i64 ι,.int .i64 θ] 25 (0,0)) (by(with_reducible repeat first|apply Qb|apply Qe|apply Qc);exact η.out)):σ ≠ μ));clear η;clear HB;have η :=L;have HB:=O;have ν :=X;have aw:= δ;have ψ := ξ;have ah:= φ;have ai:= ω;clear L O X δ ξ φ ω;clear hb hbox hg)|((with_reducible refine Qr (N:=9) rfl ?_);refine Qq ?hg (N:=9) ?hd (cs:=#[.int .i64 ac,.int .i64 ae,.int .i64 af]) (t:=36) ?hr ?_;(case hd=>rfl);(case hg=>rfl);(case hr=>first|(go_simp;done)|(go_simp;rfl));intro τ hg jx hbox hb;have L:=Aside0.mk (Qh (g:= μ) (o:=.cells #[.int .i64 J,.int .i64 B,.int .i64 Y,.int .i64 Z,.int .i64 γ,.int .i64 ζ,.int .i64 ε,.int .i64 κ,.int .i64 ι,.int .i64 θ] 25 (0,0)) (by(with_reducible repeat first|apply Qb|apply Qe|apply Qc);exact η.out) hb);have O:=Aside0.mk (Qh (g:=σ) (o:=.cells #[.slice a8 a4.length a9,.slice aa a3.length ab] 50 (0,0)) (by(with_reducible repeat first|apply Qb|apply Qe|apply Qc);exact ν.out) hb);have X:=Aside0.mk (Qj (by repeat(first|(with_reducible first|exact HB.out|apply Qg|apply Qd|apply Qf|refine Qa ?_ χ.out|refine Qa ?_ ψ.out)|exact HB.out)) hb);have δ :=Aside0.mk (hbox);have ξ :=Aside0.mk ((by rw[hg];exact(Qi (by repeat(first|(with_reducible first|exact HB.out|apply Qg|apply Qd|apply Qf|refine Qa ?_ χ.out|refine Qa ?_ ψ.out)|exact HB.out))):w.heap.size ≤ τ));have φ :=Aside0.mk ((by rw[hg];exact(Qi (by repeat(first|(with_reducible first|exact HB.out|apply Qg|apply Qd|apply Qf|refine Qa ?_ χ.out|refine Qa ?_ ψ.out)|exact HB.out))):w.heap.size ≤ τ));have ω :=Aside0.mk ((by rw[hg];exact Nat.ne_of_lt (Qp (g:= μ) (o:=.cells #[.int .i64 J,.int .i64 B,.int .i64 Y,.int .i64 Z,.int .i64 γ,.int .i64 ζ,.int .i64 ε,.int .i64 κ,.int .i64 ι,.int .i64 θ] 25 (0,0)) (by(with_reducible repeat first|apply Qb|apply Qe|apply Qc);exact η.out)): μ ≠ τ));have a6:=Aside0.mk ((by rw[hg];exact Nat.ne_of_gt (Qp (g:= μ) (o:=.cells #[.int .i64 J,.int .i64 B,.int .i64 Y,.int .i64 Z,.int .i64 γ,.int .i64 ζ,.int .i64 ε,.int .i64 κ,.int .i64 ι,.int .i64 θ] 25 (0,0)) (by(with_reducible repeat first|apply Qb|apply Qe|apply Qc);exact η.out)): τ ≠ μ));have a7:=Aside0.mk ((by rw[hg];exact Nat.ne_of_lt (Qp (g:=σ) (o:=.cells #[.slice a8 a4.length a9,.slice aa a3.length ab] 50 (0,0)) (by(with_reducible repeat first|apply Qb|apply Qe|apply Qc);exact ν.out)):σ ≠ τ));have ag:=Aside0.mk ((by rw[hg];exact Nat.ne_of_gt (Qp (g:=σ) (o:=.cells #[.slice a8 a4.length a9,.slice aa a3.length ab] 50 (0,0)) (by(with_reducible repeat first|apply Qb|apply Qe|apply Qc);exact ν.out)): τ ≠ σ));clear η;clear ν;clear HB;have η :=L;have ν :=O;have HB:=X;have ρ:= δ;have ax:= ξ;have a0:= φ;have aj:= ω;have al:=a6;have am:=a7;have an:=ag;clear L O X δ ξ φ ω a6 a7 ag;clear hb hbox hg;have hy:=ah.out;have i0:=ai.out;have iv:=aj.out;have iw:=al.out;obtain⟨fy,gn,ix,iy,iz,j2,j3,jl,jm,jn,gr,gs,j4,j5,j6,j7,j8,jo,jp,jq⟩:=Zh η.out;have gw:=am.out;have hj:=an.out;obtain⟨d3,d4,d5,d6⟩:=qD2 ν.out)|((with_reducible refine Qt (f:=17) rfl ?_);refine Q7 (some 16) rfl rfl Try.func17 kr rfl #[.agg #[.int .i64 J,.int .i64 B,.int .i64 Y,.int .i64 Z,.int .i64 γ,.int .i64 ζ,.int .i64 ε,.int .i64 κ,.int .i64 ι,.int .i64 θ],.slice A1 l1.length c1,.agg #[.slice a8 a4.length a9,.slice aa a3.length ab]] rfl (by(try simp only[List.map_toArray,List.map_cons,List.map_nil]);first|done|rfl|(simp only[List.length_drop,List.length_take];rfl)) ?_;(with_reducible refine(group_Check.calls k J B Y Z γ ζ ε κ ι θ _ _ l1 _ _ a4 _ _ a3 a1 _ ?side1 ?side2 ?side3 ?side4 ?side5 ?side6 A6.out).mono ?_);(case side1=>repeat(first|exact(Kd.Q0 df.out HB.out)|(with_reducible refine Kd.Q3 ?_ _)|(with_reducible refine Kd.Q2 ?_ _)|(with_reducible refine Kd.Q9 ?_)));(case side2=>exact dx.out);(case side3=>repeat(first|exact(Kd.Q0 br.out HB.out)|(with_reducible refine Kd.Q3 ?_ _)|(with_reducible refine Kd.Q2 ?_ _)|(with_reducible refine Kd.Q9 ?_)));(case side4=>exact cg.out);(case side5=>repeat(first|exact(Kd.Q0 ce.out HB.out)|(with_reducible refine Kd.Q3 ?_ _)|(with_reducible refine Kd.Q2 ?_ _)|(with_reducible refine Kd.Q9 ?_)));(case side6=>exact ch.out);rintro e h4 ⟨rfl,hb⟩;refine⟨_,rfl, ?_⟩;have L:=Aside0.mk (Qh (g:= μ) (o:=.cells #[.int .i64 J,.int .i64 B,.int .i64 Y,.int .i64 Z,.int .i64 γ,.int .i64 ζ,.int .i64 ε,.int .i64 κ,.int .i64 ι,.int .i64 θ] 25 (0,0)) (by(with_reducible repeat first|apply Qb|apply Qe|apply Qc);exact η.out) hb);have O:=Aside0.mk (Qh (g:=σ) (o:=.cells #[.slice a8 a4.length a9,.slice aa a3.length ab] 50 (0,0)) (by(with_reducible repeat first|apply Qb|apply Qe|apply Qc);exact ν.out) hb);have X:=Aside0.mk (Qh (g:= τ) (o:=.cells #[.int .i64 ac,.int .i64 ae,.int .i64 af] 36 (0,0)) (by(with_reducible repeat first|apply Qb|apply Qe|apply Qc);exact ρ.out) hb);have δ :=Aside0.mk (Qj (by repeat(first|(with_reducible first|exact HB.out|apply Qg|apply Qd|apply Qf|refine Qa ?_ χ.out|refine Qa ?_ ψ.out|refine Qa ?_ a0.out)|exact HB.out)) hb);clear η;clear ν;clear ρ;clear HB;have η :=L;have ν :=O;have ρ:=X;have HB:= δ;clear L O X δ;(try clear hb);(try clear ak);(try clear hk);(try clear hi)))
  go_ret2
  exact⟨by first|rfl|(simp[Qo,Qn] <;> rfl)|(simp[*,Qo,Qn] <;> rfl),by repeat(first|(with_reducible first|exact HB.out|apply Qg|apply Qd|apply Qf|refine Qa ?_ χ.out|refine Qa ?_ ψ.out|refine Qa ?_ a0.out)|exact HB.out)⟩
end Go.Proofs.Ytmfffemidlhcpaa.C
