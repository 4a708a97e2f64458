/- Texts of this claim, one behind the other: what the law's functions come to, walked (printed by a program, with the words that the print uses), and what that is, in plain Lean. No conditions of their own. -/
import Derived.Test.YtmfffemidlhcpaaQGroupPicks5
namespace Go.Proofs.Ytmfffemidlhcpaa.C
open Go.RowKit Go.Proofs.YtmfffemidlhcpaaW.PrintWords Go.Proofs.YtmfffemidlhcpaaW.PrintLast Go.Proofs.YtmfffemidlhcpaaW.PrintMore
attribute [local go_sem] Z0 Zy Z6 Z5 Zr Zq Zz Zx
set_option linter.unusedVariables false
set_option linter.unusedSimpArgs false
def newelref21_Pick.l0:Nat→List (S31)→Int→Int→Int→Int→Int→Int→Int→Int→Int→Int→Int→Int→Int→Int→List (S36)→List (S86)→Int→Int→Int→Option (Int)
 |0,_,_,_,_,_,_,_,_,_,_,_,_,_,_,_,_,_,_,_,_=>none
 |k+1,J,X,φ,σ,B,O,Y,Z,γ,δ,ε,ζ,η,θ,ι,κ,μ,ν,ξ,ρ=>if B<(J.length:Int) then (if 0≤B then ((newelref19_View.f k κ μ B).bind fun τ =>((newelref21_Cost.f k O Y Z γ δ ε ζ η θ ι ((Qb J B).f0.f0) ((Qb J B).f0.f1) ((Qb J B).f0.f2) ((Qb J B).f0.f3) ((Qb J B).f0.f4.f0) ((Qb J B).f0.f4.f1) ((Qb J B).f0.f4.f2) ((Qb J B).f1) ((Qb J B).f2) ((Qb J B).f3) τ.1 τ.2.1 τ.2.2 ν ξ ρ).bind fun bf=>((newelref21_Fault.f X B).bind fun bw=>(if bw=true then (newelref21_Pick.l0 k J X φ σ (wrap64 (B+1)) O Y Z γ δ ε ζ η θ ι κ μ ν ξ ρ) else (if φ < 0 then (newelref21_Pick.l0 k J X B bf (wrap64 (B+1)) O Y Z γ δ ε ζ η θ ι κ μ ν ξ ρ) else (if bf<σ then (newelref21_Pick.l0 k J X B bf (wrap64 (B+1)) O Y Z γ δ ε ζ η θ ι κ μ ν ξ ρ) else (newelref21_Pick.l0 k J X φ σ (wrap64 (B+1)) O Y Z γ δ ε ζ η θ ι κ μ ν ξ ρ))))))) else (none)) else (some φ)
def newelref21_Pick.f (k:Nat) (B:Int) (J:Int) (O:Int) (X:Int) (Y:Int) (Z:Int) (γ:Int) (ζ :Int) (θ :Int) (η :Int) (l1:List (S31)) (a2:Int) (χ :List (S36)) (φ :List (S86)) (a9:Int) (aa:Int) (ab:Int):Option (Int):=newelref21_Pick.l0 k l1 a2 (-1) 0 0 B J O X Y Z γ ζ θ η χ φ a9 aa ab
def newelref21_Pick.T6:Bool×List (List Nat×List Nat):=(true,[([],[]),([],[]),([],[]),([1,2],[1,2]),([3],[3]),([],[]),([],[]),([5,6],[5,6]),([],[]),([0,4,7,8,7],[0,4,7,8]),([9,9,0,1,2,3,4,5,6,7,8,9],[9])])
def newelref21_Pick.B6:List Nat:=[0,0,0,6,14,0,0,96,0,511,1023]
theorem newelref21_Pick.Vp:rtab .any (opsOf Try.f20 6)=newelref21_Pick.T6:=by kernel_rfl
theorem newelref21_Pick.Kg:Zk newelref21_Pick.T6.2 newelref21_Pick.B6=true:=by kernel_rfl
set_option maxHeartbeats 8000000 in
set_option maxRecDepth 100000 in
theorem newelref21_Pick.calls (k:Nat) (B:Int) (J:Int) (O:Int) (X:Int) (Y:Int) (Z:Int) (γ:Int) (ζ :Int) (θ :Int) (η :Int) (A1:Option Addr) (c1:Nat) (l1:List (S31)) (a2:Int) (a5:Option Addr) (a6:Nat) (χ :List (S36)) (a7:Option Addr) (a8:Nat) (φ :List (S86)) (a9:Int) (aa:Int) (ab:Int) (r:Int) (w:World) (cw:Kd.C k31 w A1 l1.length l1) (cr:l1.length≤c1) (d7:Kd.C k36 w a5 χ.length χ) (de: χ.length≤a6) (df:Kd.C k86 w a7 φ.length φ) (dh: φ.length≤a8) (h:newelref21_Pick.f k B J O X Y Z γ ζ θ η l1 a2 χ φ a9 aa ab=some r):
 Calls Try.prog 20 #[.agg #[.int .i64 B,.int .i64 J,.int .i64 O,.int .i64 X,.int .i64 Y,.int .i64 Z,.int .i64 γ,.int .i64 ζ,.int .i64 θ,.int .i64 η],.slice A1 l1.length c1,.int .i64 a2,.agg #[.slice a5 χ.length a6,.slice a7 φ.length a8],.agg #[.int .i64 a9,.int .i64 aa,.int .i64 ab]] w fun e w'=>e = .returned (.int .i64 r)∧Below w.heap.size w w':=by
 have cg:=Try.underlying25
 have dc:=Try.underlying50
 have ch:=Try.underlying36
 have er:=Try.underlying31
 have ci:=aK cw
 have dj:=aK cr
 clear cw cr
 have bk:=aK d7
 have bu:=aK de
 clear d7 de
 have bo:=aK df
 have bv:=aK dh
 clear df dh
 have HB:=aK (Below.refl w.heap.size w)
 have H:(newelref21_Pick.l0 k l1 a2 (-1) 0 0 B J O X Y Z γ ζ θ η χ φ a9 aa ab)=some r:=h
 clear h
 have H':=aK H
 clear H
 go_enter Try.func20,Try.ntmps20
 go_wp2_with (first|((with_reducible refine Qe (N:=5) rfl ?_);refine qE 5 #[.int .i64 B,.int .i64 J,.int .i64 O,.int .i64 X,.int .i64 Y,.int .i64 Z,.int .i64 γ,.int .i64 ζ,.int .i64 θ,.int .i64 η] 25 ?_;intro ν hg w6 hbox hb;have ε :=aK hbox;have e3:=sGe hg;have e4:=sGe hg;replace HB:=sHb hb;clear hb hbox hg)|((with_reducible refine Qe (N:=8) rfl ?_);refine qE 8 #[.slice a5 χ.length a6,.slice a7 φ.length a8] 50 ?_;intro bn hg w7 hbox hb;have μ :=aK hbox;have e5:=sGe hg;have e6:=sGe hg;have d4:=sNl ε hg;have d5:=sNg ε hg;replace ε :=sBk ε hb;replace HB:=sHb hb;clear hb hbox hg)|((with_reducible refine Qe (N:=9) rfl ?_);refine qE 9 #[.int .i64 a9,.int .i64 aa,.int .i64 ab] 36 ?_;intro b5 hg w8 hbox hb;have κ :=aK hbox;have e7:=sGe hg;have e9:=sGe hg;have d6:=sNl ε hg;have d8:=sNg ε hg;have d9:=sNl μ hg;have da:=sNg μ hg;replace ε :=sBk ε hb;replace μ :=sBk μ hb;replace HB:=sHb hb;clear hb hbox hg))
 go_loopg [11,12,13] k (fun kq e0 cn cp w'=>∃ (bp:Int) (ao:Int) (δ :Int),e0 = .int .i64 bp∧cn = .int .i64 ao∧cp = .int .i64 δ ∧ Aside0 (newelref21_Pick.l0 kq l1 a2 bp ao δ B J O X Y Z γ ζ θ η χ φ a9 aa ab=some r)∧Aside0 (kq≤k)∧Aside0 (w'.heap[ν]?=some (.cells #[.int .i64 B,.int .i64 J,.int .i64 O,.int .i64 X,.int .i64 Y,.int .i64 Z,.int .i64 γ,.int .i64 ζ,.int .i64 θ,.int .i64 η] 25 (0,0)))∧Aside0 (w'.heap[bn]?=some (.cells #[(.slice a5 χ.length a6),(.slice a7 φ.length a8)] 50 (0,0)))∧Aside0 (w'.heap[b5]?=some (.cells #[.int .i64 a9,.int .i64 aa,.int .i64 ab] 36 (0,0)))∧Aside0 (Below w.heap.size w w'))
 case atStart=>exact⟨((-1)),(0),(0),rfl,rfl,rfl,H',⟨Nat.le_refl _⟩,ε,μ,κ,HB⟩
 case round=>
  clear H'
  try clear c1
  obtain⟨bp,ao,δ,rfl,rfl,rfl,HA,am,ε,μ,κ,HB⟩:=hrel
  cases gk with
  |zero=>exact absurd HA.out (by simp[newelref21_Pick.l0])
  |succ k1=>
   have H:=HA.out
   clear HA
   simp only[newelref21_Pick.l0] at H
   by_cases c9: δ < (l1.length:Int)
   ·rw[if_pos c9] at H
    have c9b0:=decide_eq_true c9
    clear c9
    by_cases c10:0 ≤ δ
    ·rw[if_pos c10] at H
     have c10b0:=decide_eq_true c10
     clear c10
     obtain⟨⟨bi,bl,bm⟩,bd,H⟩:=qO H
     replace H:((newelref21_Cost.f k1 B J O X Y Z γ ζ θ η ((Qb l1 δ).f0.f0) ((Qb l1 δ).f0.f1) ((Qb l1 δ).f0.f2) ((Qb l1 δ).f0.f3) ((Qb l1 δ).f0.f4.f0) ((Qb l1 δ).f0.f4.f1) ((Qb l1 δ).f0.f4.f2) ((Qb l1 δ).f1) ((Qb l1 δ).f2) ((Qb l1 δ).f3) bi bl bm a9 aa ab).bind fun bf=>((newelref21_Fault.f a2 δ).bind fun bw=>(if bw=true then (newelref21_Pick.l0 k1 l1 a2 bp ao (wrap64 (δ + 1)) B J O X Y Z γ ζ θ η χ φ a9 aa ab) else (if bp<0 then (newelref21_Pick.l0 k1 l1 a2 δ bf (wrap64 (δ + 1)) B J O X Y Z γ ζ θ η χ φ a9 aa ab) else (if bf<ao then (newelref21_Pick.l0 k1 l1 a2 δ bf (wrap64 (δ + 1)) B J O X Y Z γ ζ θ η χ φ a9 aa ab) else (newelref21_Pick.l0 k1 l1 a2 bp ao (wrap64 (δ + 1)) B J O X Y Z γ ζ θ η χ φ a9 aa ab))))))=some r:=H
     have cy:=aK bd
     clear bd
     obtain⟨bf,b7,H⟩:=qO H
     have b6:=aK b7
     clear b7
     obtain⟨bw,bz,H⟩:=qO H
     have br:=aK bz
     clear bz
     by_cases ae:bw=true
     ·subst ae
      rw[if_pos rfl] at H
      have H':=aK H
      clear H
      try go_wp2
      replace ε :=aK (Qd ε.out)
      replace μ :=aK (Qd μ.out)
      replace κ :=aK (Qd κ.out)
      replace HB:=aK (Qg HB.out)
      have bg:0≤(δ :Int):=of_decide_eq_true (by assumption)
      have bh: δ < (l1.length:Int):=of_decide_eq_true (by assumption)
      obtain⟨ι,bs,ξ,ρ,σ,τ,ψ,ω,a0,a1,a3,ag⟩:=Yy ci.out δ bg bh
      have ap:=ag
      have ar:=a3
      have au:=a1
      have av:=a0
      have az:= ω
      have b0:= ψ
      have b1:= τ
      have b2:=σ
      have b3:=ρ
      have b4:= ξ
      cases bs
      replace ξ :=sCl HB ξ
      replace ρ:=sCl HB ρ
      replace σ:=sCl HB σ
      replace τ :=sCl HB τ
      replace ψ :=sCl HB ψ
      replace ω :=sCl HB ω
      replace a0:=sCl HB a0
      replace a1:=sCl HB a1
      replace a3:=sCl HB a3
      replace ag:=sCl HB ag
      replace bg:=eq_true bg
      replace bh:=eq_true bh
      refine Ze (n:=11) (S:=fun w'=>w'.cell? ⟨ν,0,none⟩=some (.int .i64 B)∧w'.cell? ⟨ν,1,none⟩=some (.int .i64 J)∧w'.cell? ⟨ν,2,none⟩=some (.int .i64 O)∧w'.cell? ⟨ν,3,none⟩=some (.int .i64 X)∧w'.cell? ⟨ν,4,none⟩=some (.int .i64 Y)∧w'.cell? ⟨ν,5,none⟩=some (.int .i64 Z)∧w'.cell? ⟨ν,6,none⟩=some (.int .i64 γ)∧w'.cell? ⟨ν,7,none⟩=some (.int .i64 ζ)∧w'.cell? ⟨ν,8,none⟩=some (.int .i64 θ)∧w'.cell? ⟨ν,9,none⟩=some (.int .i64 η)∧w'.cell? ⟨bn,0,none⟩=some (.slice a5 χ.length a6)∧w'.cell? ⟨bn,1,none⟩=some (.slice a7 φ.length a8)∧w'.cell? ⟨b5,0,none⟩=some (.int .i64 a9)∧w'.cell? ⟨b5,1,none⟩=some (.int .i64 aa)∧w'.cell? ⟨b5,2,none⟩=some (.int .i64 ab)∧w'.cell? (ι.add ((δ).toNat * 10))=some (.int .i64 ((Qb l1 δ).f0.f0))∧w'.cell? ⟨(ι.add ((δ).toNat * 10)).block,(ι.add ((δ).toNat * 10)).off+1,none⟩=some (.int .i64 ((Qb l1 δ).f0.f1))∧w'.cell? ⟨(ι.add ((δ).toNat * 10)).block,(ι.add ((δ).toNat * 10)).off+2,none⟩=some (.int .i64 ((Qb l1 δ).f0.f2))∧w'.cell? ⟨(ι.add ((δ).toNat * 10)).block,(ι.add ((δ).toNat * 10)).off+3,none⟩=some (.int .i64 ((Qb l1 δ).f0.f3))∧w'.cell? ⟨(ι.add ((δ).toNat * 10)).block,(ι.add ((δ).toNat * 10)).off+4,none⟩=some (.int .i64 ((Qb l1 δ).f0.f4.f0))∧w'.cell? ⟨(ι.add ((δ).toNat * 10)).block,(ι.add ((δ).toNat * 10)).off+5,none⟩=some (.int .i64 ((Qb l1 δ).f0.f4.f1))∧w'.cell? ⟨(ι.add ((δ).toNat * 10)).block,(ι.add ((δ).toNat * 10)).off+6,none⟩=some (.int .i64 ((Qb l1 δ).f0.f4.f2))∧w'.cell? ⟨(ι.add ((δ).toNat * 10)).block,(ι.add ((δ).toNat * 10)).off+7,none⟩=some (.int .i64 ((Qb l1 δ).f1))∧w'.cell? ⟨(ι.add ((δ).toNat * 10)).block,(ι.add ((δ).toNat * 10)).off+8,none⟩=some (.bool ((Qb l1 δ).f2))∧w'.cell? ⟨(ι.add ((δ).toNat * 10)).block,(ι.add ((δ).toNat * 10)).off+9,none⟩=some (.bool ((Qb l1 δ).f3))) (ds:=[]) #[false,false,false,false,false,false,false,false,false,false,false] kr rfl rfl ⟨(Qa ε.out 0).trans rfl,(Qa ε.out 1).trans rfl,(Qa ε.out 2).trans rfl,(Qa ε.out 3).trans rfl,(Qa ε.out 4).trans rfl,(Qa ε.out 5).trans rfl,(Qa ε.out 6).trans rfl,(Qa ε.out 7).trans rfl,(Qa ε.out 8).trans rfl,(Qa ε.out 9).trans rfl,(Qa μ.out 0).trans rfl,(Qa μ.out 1).trans rfl,(Qa κ.out 0).trans rfl,(Qa κ.out 1).trans rfl,(Qa κ.out 2).trans rfl,(sCl HB b4),(sCl HB b3),(sCl HB b2),(sCl HB b1),(sCl HB b0),(sCl HB az),(sCl HB av),(sCl HB au),(sCl HB ar),(sCl HB ap)⟩ (fun hHeld=>?_);refine Q5 newelref21_Pick.Vp newelref21_Pick.Kg (fun HT_ HW_=>?_)
      generalize wr.drew=ez at ε μ κ HB ξ ρ σ τ ψ ω a0 a1 a3 ag hHeld ⊢
      refine qP 1 (some 23) (bN 11 2) HT_ ?_
      refine qP 2 (some 24) (bN 11 6) HT_ ?_
      refine qP 3 (some 25) (bN 11 14) HT_ ?_
      refine qP 6 (some 28) (bN 11 78) HT_ ?_
      refine qT 0 (some 22) (bN 11 79) HT_ HW_ hHeld ?_
      refine qT 4 (some 26) (bN 11 95) HT_ HW_ hHeld ?_
      refine qT 5 (some 27) (bN 11 127) HT_ HW_ hHeld ?_
      refine qT 8 (some 30) (bN 11 383) HT_ HW_ hHeld ?_
      refine Zf (i:=7) (N:=some 29) (bN 11 511) rfl rfl (Q3 HT_.out kr) (by decide) (fun K hK=>?_)
      refine Zd Try.func41 kr rfl #[.agg #[.slice a5 χ.length a6,.slice a7 φ.length a8],.int .i64 δ] (by rfl) rfl rfl qM ?_
      with_reducible refine(newelref19_View.calls k1 _ _ χ _ _ φ δ bi bl bm _ ?side1 ?side2 ?side3 ?side4 cy.out).mono ?_
      (case side1=>exact(Kd.Qs bk.out HB.out))
      (case side2=>exact bu.out)
      (case side3=>exact(Kd.Qs bo.out HB.out))
      (case side4=>exact bv.out)
      rintro e cx ⟨cf,cj,ck,rfl,af,ah,ba,hb⟩
      refine⟨_,rfl, ?_⟩
      have ai:=aK (Kd.Q8 af (Qn HB.out))
      have al:=aK (Kd.Q8 ah (Qn HB.out))
      have an:=aK (Kd.Q8 ba (Qn HB.out))
      replace ε :=sBk ε hb
      replace μ :=sBk μ hb
      replace κ :=sBk κ hb
      replace HB:=sHb hb
      (try clear hb)
      (try clear a4)
      (try clear hk)
      (try clear hi)
      (try clear af)
      (try clear ah)
      (try clear ba)
      obtain⟨db,dm,cq⟩:=Kd.Q7 ai.out
      (first|subst cq|(injection cq with aj aw ak;have ax:=aj.symm;have ay:=ak.symm;clear aj aw ak;subst ax;subst ay))
      obtain⟨dk,cz,bq⟩:=Kd.Q7 al.out
      (first|subst bq|(injection bq with aj aw ak;have ax:=aj.symm;have ay:=ak.symm;clear aj aw ak;subst ax;subst ay))
      obtain⟨d2,d3,dl⟩:=Kd.Q7 an.out
      (first|subst dl|(injection dl with aj aw ak;have ax:=aj.symm;have ay:=ak.symm;clear aj aw ak;subst ax;subst ay))
      refine hK.out _ _ ⟨qc ε,qc ε,qc ε,qc ε,qc ε,qc ε,qc ε,qc ε,qc ε,qc ε,qc μ,qc μ,qc κ,qc κ,qc κ,(sCl HB b4),(sCl HB b3),(sCl HB b2),(sCl HB b1),(sCl HB b0),(sCl HB az),(sCl HB av),(sCl HB au),(sCl HB ar),(sCl HB ap)⟩ (fun hHeld=>?_)
      clear hK K
      refine qN (some 29) ?_
      refine Zf (i:=9) (N:=some 31) (bN 11 1023) rfl rfl (Q3 HT_.out kr) (by decide) (fun K hK=>?_)
      refine Zd Try.func12 kr rfl #[.agg #[.int .i64 B,.int .i64 J,.int .i64 O,.int .i64 X,.int .i64 Y,.int .i64 Z,.int .i64 γ,.int .i64 ζ,.int .i64 θ,.int .i64 η],.agg #[.int .i64 ((Qb l1 δ).f0.f0),.int .i64 ((Qb l1 δ).f0.f1),.int .i64 ((Qb l1 δ).f0.f2),.int .i64 ((Qb l1 δ).f0.f3),.int .i64 ((Qb l1 δ).f0.f4.f0),.int .i64 ((Qb l1 δ).f0.f4.f1),.int .i64 ((Qb l1 δ).f0.f4.f2),.int .i64 ((Qb l1 δ).f1),.bool ((Qb l1 δ).f2),.bool ((Qb l1 δ).f3)],.agg #[.slice db bi.length dm,.slice dk bl.length cz,.slice d2 bm.length d3],.agg #[.int .i64 a9,.int .i64 aa,.int .i64 ab]] (by rfl) rfl rfl qM ?_
      with_reducible refine(newelref21_Cost.calls k1 B J O X Y Z γ ζ θ η ((Qb l1 δ).f0.f0) ((Qb l1 δ).f0.f1) ((Qb l1 δ).f0.f2) ((Qb l1 δ).f0.f3) ((Qb l1 δ).f0.f4.f0) ((Qb l1 δ).f0.f4.f1) ((Qb l1 δ).f0.f4.f2) ((Qb l1 δ).f1) ((Qb l1 δ).f2) ((Qb l1 δ).f3) _ _ bi _ _ bl _ _ bm a9 aa ab bf _ ?side1 ?side2 ?side3 ?side4 ?side5 ?side6 b6.out).mono ?_
      (case side1=>exact(Kd.Qw ai.out).2.2)
      (case side2=>exact(Kd.Qw ai.out).2.1)
      (case side3=>exact(Kd.Qw al.out).2.2)
      (case side4=>exact(Kd.Qw al.out).2.1)
      (case side5=>exact(Kd.Qw an.out).2.2)
      (case side6=>exact(Kd.Qw an.out).2.1)
      rintro e dx ⟨rfl,hb⟩
      refine⟨_,rfl, ?_⟩
      replace ai:=sRb ai hb
      replace al:=sRb al hb
      replace an:=sRb an hb
      replace ε :=sBk ε hb
      replace μ :=sBk μ hb
      replace κ :=sBk κ hb
      replace HB:=sHb hb
      (try clear hb)
      (try clear a4)
      (try clear hk)
      (try clear hi)
      refine hK.out _ _ ⟨qc ε,qc ε,qc ε,qc ε,qc ε,qc ε,qc ε,qc ε,qc ε,qc ε,qc μ,qc μ,qc κ,qc κ,qc κ,(sCl HB b4),(sCl HB b3),(sCl HB b2),(sCl HB b1),(sCl HB b0),(sCl HB az),(sCl HB av),(sCl HB au),(sCl HB ar),(sCl HB ap)⟩ (fun hHeld=>?_)
      clear hK K
      refine qN (some 31) ?_
      refine qP 10 (some 14) (bN 11 2047) HT_ ?_
      refine Zi (Zc HT_.out kr) ?_
      try go_wp2_with (first|((with_reducible refine Qf (f:=42) rfl ?_);refine Qt (some 34) rfl rfl Try.func42 kr rfl #[.int .i64 a2,.int .i64 δ] rfl qM ?_;(with_reducible refine(newelref21_Fault.calls a2 δ true _ br.out).mono ?_);rintro e w' ⟨rfl,⟨nd,rfl⟩⟩;refine⟨_,rfl, ?_⟩))
      go_roundg k1
      case measure=>have:=am.out;omega
      case rel=>exact⟨(bp),(ao),(wrap64 (δ + 1)),qR,qR,qR,H',⟨by have:=am.out;omega⟩,⟨bka ε⟩,⟨bka μ⟩,⟨bka κ⟩,⟨bel⟩⟩
     ·replace ae:=Bool.eq_false_iff.mpr ae
      subst ae
      rw[if_neg nft] at H
      by_cases ac:bp<0
      ·rw[if_pos ac] at H
       have c21b0:=decide_eq_true ac
       clear ac
       have H':=aK H
       clear H
       try go_wp2
       replace ε :=aK (Qd ε.out)
       replace μ :=aK (Qd μ.out)
       replace κ :=aK (Qd κ.out)
       replace HB:=aK (Qg HB.out)
       have bg:0≤(δ :Int):=of_decide_eq_true (by assumption)
       have bh: δ < (l1.length:Int):=of_decide_eq_true (by assumption)
       obtain⟨ι,bs,ξ,ρ,σ,τ,ψ,ω,a0,a1,a3,ag⟩:=Yy ci.out δ bg bh
       have ap:=ag
       have ar:=a3
       have au:=a1
       have av:=a0
       have az:= ω
       have b0:= ψ
       have b1:= τ
       have b2:=σ
       have b3:=ρ
       have b4:= ξ
       cases bs
       replace ξ :=sCl HB ξ
       replace ρ:=sCl HB ρ
       replace σ:=sCl HB σ
       replace τ :=sCl HB τ
       replace ψ :=sCl HB ψ
       replace ω :=sCl HB ω
       replace a0:=sCl HB a0
       replace a1:=sCl HB a1
       replace a3:=sCl HB a3
       replace ag:=sCl HB ag
       replace bg:=eq_true bg
       replace bh:=eq_true bh
       refine Ze (n:=11) (S:=fun w'=>w'.cell? ⟨ν,0,none⟩=some (.int .i64 B)∧w'.cell? ⟨ν,1,none⟩=some (.int .i64 J)∧w'.cell? ⟨ν,2,none⟩=some (.int .i64 O)∧w'.cell? ⟨ν,3,none⟩=some (.int .i64 X)∧w'.cell? ⟨ν,4,none⟩=some (.int .i64 Y)∧w'.cell? ⟨ν,5,none⟩=some (.int .i64 Z)∧w'.cell? ⟨ν,6,none⟩=some (.int .i64 γ)∧w'.cell? ⟨ν,7,none⟩=some (.int .i64 ζ)∧w'.cell? ⟨ν,8,none⟩=some (.int .i64 θ)∧w'.cell? ⟨ν,9,none⟩=some (.int .i64 η)∧w'.cell? ⟨bn,0,none⟩=some (.slice a5 χ.length a6)∧w'.cell? ⟨bn,1,none⟩=some (.slice a7 φ.length a8)∧w'.cell? ⟨b5,0,none⟩=some (.int .i64 a9)∧w'.cell? ⟨b5,1,none⟩=some (.int .i64 aa)∧w'.cell? ⟨b5,2,none⟩=some (.int .i64 ab)∧w'.cell? (ι.add ((δ).toNat * 10))=some (.int .i64 ((Qb l1 δ).f0.f0))∧w'.cell? ⟨(ι.add ((δ).toNat * 10)).block,(ι.add ((δ).toNat * 10)).off+1,none⟩=some (.int .i64 ((Qb l1 δ).f0.f1))∧w'.cell? ⟨(ι.add ((δ).toNat * 10)).block,(ι.add ((δ).toNat * 10)).off+2,none⟩=some (.int .i64 ((Qb l1 δ).f0.f2))∧w'.cell? ⟨(ι.add ((δ).toNat * 10)).block,(ι.add ((δ).toNat * 10)).off+3,none⟩=some (.int .i64 ((Qb l1 δ).f0.f3))∧w'.cell? ⟨(ι.add ((δ).toNat * 10)).block,(ι.add ((δ).toNat * 10)).off+4,none⟩=some (.int .i64 ((Qb l1 δ).f0.f4.f0))∧w'.cell? ⟨(ι.add ((δ).toNat * 10)).block,(ι.add ((δ).toNat * 10)).off+5,none⟩=some (.int .i64 ((Qb l1 δ).f0.f4.f1))∧w'.cell? ⟨(ι.add ((δ).toNat * 10)).block,(ι.add ((δ).toNat * 10)).off+6,none⟩=some (.int .i64 ((Qb l1 δ).f0.f4.f2))∧w'.cell? ⟨(ι.add ((δ).toNat * 10)).block,(ι.add ((δ).toNat * 10)).off+7,none⟩=some (.int .i64 ((Qb l1 δ).f1))∧w'.cell? ⟨(ι.add ((δ).toNat * 10)).block,(ι.add ((δ).toNat * 10)).off+8,none⟩=some (.bool ((Qb l1 δ).f2))∧w'.cell? ⟨(ι.add ((δ).toNat * 10)).block,(ι.add ((δ).toNat * 10)).off+9,none⟩=some (.bool ((Qb l1 δ).f3))) (ds:=[]) #[false,false,false,false,false,false,false,false,false,false,false] kr rfl rfl ⟨(Qa ε.out 0).trans rfl,(Qa ε.out 1).trans rfl,(Qa ε.out 2).trans rfl,(Qa ε.out 3).trans rfl,(Qa ε.out 4).trans rfl,(Qa ε.out 5).trans rfl,(Qa ε.out 6).trans rfl,(Qa ε.out 7).trans rfl,(Qa ε.out 8).trans rfl,(Qa ε.out 9).trans rfl,(Qa μ.out 0).trans rfl,(Qa μ.out 1).trans rfl,(Qa κ.out 0).trans rfl,(Qa κ.out 1).trans rfl,(Qa κ.out 2).trans rfl,(sCl HB b4),(sCl HB b3),(sCl HB b2),(sCl HB b1),(sCl HB b0),(sCl HB az),(sCl HB av),(sCl HB au),(sCl HB ar),(sCl HB ap)⟩ (fun hHeld=>?_);refine Q5 newelref21_Pick.Vp newelref21_Pick.Kg (fun HT_ HW_=>?_)
       generalize wr.drew=bj at ε μ κ HB ξ ρ σ τ ψ ω a0 a1 a3 ag hHeld ⊢
       refine qP 1 (some 23) (bN 11 2) HT_ ?_
       refine qP 2 (some 24) (bN 11 6) HT_ ?_
       refine qP 3 (some 25) (bN 11 14) HT_ ?_
       refine qP 6 (some 28) (bN 11 78) HT_ ?_
       refine qT 0 (some 22) (bN 11 79) HT_ HW_ hHeld ?_
       refine qT 4 (some 26) (bN 11 95) HT_ HW_ hHeld ?_
       refine qT 5 (some 27) (bN 11 127) HT_ HW_ hHeld ?_
       refine qT 8 (some 30) (bN 11 383) HT_ HW_ hHeld ?_
       refine Zf (i:=7) (N:=some 29) (bN 11 511) rfl rfl (Q3 HT_.out kr) (by decide) (fun K hK=>?_)
       refine Zd Try.func41 kr rfl #[.agg #[.slice a5 χ.length a6,.slice a7 φ.length a8],.int .i64 δ] (by rfl) rfl rfl qM ?_
       with_reducible refine(newelref19_View.calls k1 _ _ χ _ _ φ δ bi bl bm _ ?side1 ?side2 ?side3 ?side4 cy.out).mono ?_
       (case side1=>exact(Kd.Qs bk.out HB.out))
       (case side2=>exact bu.out)
       (case side3=>exact(Kd.Qs bo.out HB.out))
       (case side4=>exact bv.out)
       rintro e bb ⟨cf,cj,ck,rfl,af,ah,ba,hb⟩
       refine⟨_,rfl, ?_⟩
       have ai:=aK (Kd.Q8 af (Qn HB.out))
       have al:=aK (Kd.Q8 ah (Qn HB.out))
       have an:=aK (Kd.Q8 ba (Qn HB.out))
       replace ε :=sBk ε hb
       replace μ :=sBk μ hb
       replace κ :=sBk κ hb
       replace HB:=sHb hb
       (try clear hb)
       (try clear a4)
       (try clear hk)
       (try clear hi)
       (try clear af)
       (try clear ah)
       (try clear ba)
       obtain⟨b8,b9,dd⟩:=Kd.Q7 ai.out
       (first|subst dd|(injection dd with aj aw ak;have ax:=aj.symm;have ay:=ak.symm;clear aj aw ak;subst ax;subst ay))
       obtain⟨dn,dp,ct⟩:=Kd.Q7 al.out
       (first|subst ct|(injection ct with aj aw ak;have ax:=aj.symm;have ay:=ak.symm;clear aj aw ak;subst ax;subst ay))
       obtain⟨iv,iw,fm⟩:=Kd.Q7 an.out
       (first|subst fm|(injection fm with aj aw ak;have ax:=aj.symm;have ay:=ak.symm;clear aj aw ak;subst ax;subst ay))
       refine hK.out _ _ ⟨qc ε,qc ε,qc ε,qc ε,qc ε,qc ε,qc ε,qc ε,qc ε,qc ε,qc μ,qc μ,qc κ,qc κ,qc κ,(sCl HB b4),(sCl HB b3),(sCl HB b2),(sCl HB b1),(sCl HB b0),(sCl HB az),(sCl HB av),(sCl HB au),(sCl HB ar),(sCl HB ap)⟩ (fun hHeld=>?_)
       clear hK K
       refine qN (some 29) ?_
       refine Zf (i:=9) (N:=some 31) (bN 11 1023) rfl rfl (Q3 HT_.out kr) (by decide) (fun K hK=>?_)
       refine Zd Try.func12 kr rfl #[.agg #[.int .i64 B,.int .i64 J,.int .i64 O,.int .i64 X,.int .i64 Y,.int .i64 Z,.int .i64 γ,.int .i64 ζ,.int .i64 θ,.int .i64 η],.agg #[.int .i64 ((Qb l1 δ).f0.f0),.int .i64 ((Qb l1 δ).f0.f1),.int .i64 ((Qb l1 δ).f0.f2),.int .i64 ((Qb l1 δ).f0.f3),.int .i64 ((Qb l1 δ).f0.f4.f0),.int .i64 ((Qb l1 δ).f0.f4.f1),.int .i64 ((Qb l1 δ).f0.f4.f2),.int .i64 ((Qb l1 δ).f1),.bool ((Qb l1 δ).f2),.bool ((Qb l1 δ).f3)],.agg #[.slice b8 bi.length b9,.slice dn bl.length dp,.slice iv bm.length iw],.agg #[.int .i64 a9,.int .i64 aa,.int .i64 ab]] (by rfl) rfl rfl qM ?_
       with_reducible refine(newelref21_Cost.calls k1 B J O X Y Z γ ζ θ η ((Qb l1 δ).f0.f0) ((Qb l1 δ).f0.f1) ((Qb l1 δ).f0.f2) ((Qb l1 δ).f0.f3) ((Qb l1 δ).f0.f4.f0) ((Qb l1 δ).f0.f4.f1) ((Qb l1 δ).f0.f4.f2) ((Qb l1 δ).f1) ((Qb l1 δ).f2) ((Qb l1 δ).f3) _ _ bi _ _ bl _ _ bm a9 aa ab bf _ ?side1 ?side2 ?side3 ?side4 ?side5 ?side6 b6.out).mono ?_
       (case side1=>exact(Kd.Qw ai.out).2.2)
       (case side2=>exact(Kd.Qw ai.out).2.1)
       (case side3=>exact(Kd.Qw al.out).2.2)
       (case side4=>exact(Kd.Qw al.out).2.1)
       (case side5=>exact(Kd.Qw an.out).2.2)
       (case side6=>exact(Kd.Qw an.out).2.1)
       rintro e di ⟨rfl,hb⟩
       refine⟨_,rfl, ?_⟩
       replace ai:=sRb ai hb
       replace al:=sRb al hb
       replace an:=sRb an hb
       replace ε :=sBk ε hb
       replace μ :=sBk μ hb
       replace κ :=sBk κ hb
       replace HB:=sHb hb
       (try clear hb)
       (try clear a4)
       (try clear hk)
       (try clear hi)
       refine hK.out _ _ ⟨qc ε,qc ε,qc ε,qc ε,qc ε,qc ε,qc ε,qc ε,qc ε,qc ε,qc μ,qc μ,qc κ,qc κ,qc κ,(sCl HB b4),(sCl HB b3),(sCl HB b2),(sCl HB b1),(sCl HB b0),(sCl HB az),(sCl HB av),(sCl HB au),(sCl HB ar),(sCl HB ap)⟩ (fun hHeld=>?_)
       clear hK K
       refine qN (some 31) ?_
       refine qP 10 (some 14) (bN 11 2047) HT_ ?_
       refine Zi (Zc HT_.out kr) ?_
       try go_wp2_with (first|((with_reducible refine Qf (f:=42) rfl ?_);refine Qt (some 34) rfl rfl Try.func42 kr rfl #[.int .i64 a2,.int .i64 δ] rfl qM ?_;(with_reducible refine(newelref21_Fault.calls a2 δ false _ br.out).mono ?_);rintro e w' ⟨rfl,⟨nd,rfl⟩⟩;refine⟨_,rfl, ?_⟩))
       go_roundg k1
       case measure=>have:=am.out;omega
       case rel=>exact⟨(δ),(bf),(wrap64 (δ + 1)),qR,qR,qR,H',⟨by have:=am.out;omega⟩,⟨bka ε⟩,⟨bka μ⟩,⟨bka κ⟩,⟨bel⟩⟩
      ·rw[if_neg ac] at H
       have c21b0:=decide_eq_false ac
       clear ac
       by_cases bc:bf<ao
       ·rw[if_pos bc] at H
        have c28b0:=decide_eq_true bc
        clear bc
        have H':=aK H
        clear H
        try go_wp2
        replace ε :=aK (Qd ε.out)
        replace μ :=aK (Qd μ.out)
        replace κ :=aK (Qd κ.out)
        replace HB:=aK (Qg HB.out)
        have bg:0≤(δ :Int):=of_decide_eq_true (by assumption)
        have bh: δ < (l1.length:Int):=of_decide_eq_true (by assumption)
        obtain⟨ι,bs,ξ,ρ,σ,τ,ψ,ω,a0,a1,a3,ag⟩:=Yy ci.out δ bg bh
        have ap:=ag
        have ar:=a3
        have au:=a1
        have av:=a0
        have az:= ω
        have b0:= ψ
        have b1:= τ
        have b2:=σ
        have b3:=ρ
        have b4:= ξ
        cases bs
        replace ξ :=sCl HB ξ
        replace ρ:=sCl HB ρ
        replace σ:=sCl HB σ
        replace τ :=sCl HB τ
        replace ψ :=sCl HB ψ
        replace ω :=sCl HB ω
        replace a0:=sCl HB a0
        replace a1:=sCl HB a1
        replace a3:=sCl HB a3
        replace ag:=sCl HB ag
        replace bg:=eq_true bg
        replace bh:=eq_true bh
        refine Ze (n:=11) (S:=fun w'=>w'.cell? ⟨ν,0,none⟩=some (.int .i64 B)∧w'.cell? ⟨ν,1,none⟩=some (.int .i64 J)∧w'.cell? ⟨ν,2,none⟩=some (.int .i64 O)∧w'.cell? ⟨ν,3,none⟩=some (.int .i64 X)∧w'.cell? ⟨ν,4,none⟩=some (.int .i64 Y)∧w'.cell? ⟨ν,5,none⟩=some (.int .i64 Z)∧w'.cell? ⟨ν,6,none⟩=some (.int .i64 γ)∧w'.cell? ⟨ν,7,none⟩=some (.int .i64 ζ)∧w'.cell? ⟨ν,8,none⟩=some (.int .i64 θ)∧w'.cell? ⟨ν,9,none⟩=some (.int .i64 η)∧w'.cell? ⟨bn,0,none⟩=some (.slice a5 χ.length a6)∧w'.cell? ⟨bn,1,none⟩=some (.slice a7 φ.length a8)∧w'.cell? ⟨b5,0,none⟩=some (.int .i64 a9)∧w'.cell? ⟨b5,1,none⟩=some (.int .i64 aa)∧w'.cell? ⟨b5,2,none⟩=some (.int .i64 ab)∧w'.cell? (ι.add ((δ).toNat * 10))=some (.int .i64 ((Qb l1 δ).f0.f0))∧w'.cell? ⟨(ι.add ((δ).toNat * 10)).block,(ι.add ((δ).toNat * 10)).off+1,none⟩=some (.int .i64 ((Qb l1 δ).f0.f1))∧w'.cell? ⟨(ι.add ((δ).toNat * 10)).block,(ι.add ((δ).toNat * 10)).off+2,none⟩=some (.int .i64 ((Qb l1 δ).f0.f2))∧w'.cell? ⟨(ι.add ((δ).toNat * 10)).block,(ι.add ((δ).toNat * 10)).off+3,none⟩=some (.int .i64 ((Qb l1 δ).f0.f3))∧w'.cell? ⟨(ι.add ((δ).toNat * 10)).block,(ι.add ((δ).toNat * 10)).off+4,none⟩=some (.int .i64 ((Qb l1 δ).f0.f4.f0))∧w'.cell? ⟨(ι.add ((δ).toNat * 10)).block,(ι.add ((δ).toNat * 10)).off+5,none⟩=some (.int .i64 ((Qb l1 δ).f0.f4.f1))∧w'.cell? ⟨(ι.add ((δ).toNat * 10)).block,(ι.add ((δ).toNat * 10)).off+6,none⟩=some (.int .i64 ((Qb l1 δ).f0.f4.f2))∧w'.cell? ⟨(ι.add ((δ).toNat * 10)).block,(ι.add ((δ).toNat * 10)).off+7,none⟩=some (.int .i64 ((Qb l1 δ).f1))∧w'.cell? ⟨(ι.add ((δ).toNat * 10)).block,(ι.add ((δ).toNat * 10)).off+8,none⟩=some (.bool ((Qb l1 δ).f2))∧w'.cell? ⟨(ι.add ((δ).toNat * 10)).block,(ι.add ((δ).toNat * 10)).off+9,none⟩=some (.bool ((Qb l1 δ).f3))) (ds:=[]) #[false,false,false,false,false,false,false,false,false,false,false] kr rfl rfl ⟨(Qa ε.out 0).trans rfl,(Qa ε.out 1).trans rfl,(Qa ε.out 2).trans rfl,(Qa ε.out 3).trans rfl,(Qa ε.out 4).trans rfl,(Qa ε.out 5).trans rfl,(Qa ε.out 6).trans rfl,(Qa ε.out 7).trans rfl,(Qa ε.out 8).trans rfl,(Qa ε.out 9).trans rfl,(Qa μ.out 0).trans rfl,(Qa μ.out 1).trans rfl,(Qa κ.out 0).trans rfl,(Qa κ.out 1).trans rfl,(Qa κ.out 2).trans rfl,(sCl HB b4),(sCl HB b3),(sCl HB b2),(sCl HB b1),(sCl HB b0),(sCl HB az),(sCl HB av),(sCl HB au),(sCl HB ar),(sCl HB ap)⟩ (fun hHeld=>?_);refine Q5 newelref21_Pick.Vp newelref21_Pick.Kg (fun HT_ HW_=>?_)
        generalize wr.drew=h8 at ε μ κ HB ξ ρ σ τ ψ ω a0 a1 a3 ag hHeld ⊢
        refine qP 1 (some 23) (bN 11 2) HT_ ?_
        refine qP 2 (some 24) (bN 11 6) HT_ ?_
        refine qP 3 (some 25) (bN 11 14) HT_ ?_
        refine qP 6 (some 28) (bN 11 78) HT_ ?_
        refine qT 0 (some 22) (bN 11 79) HT_ HW_ hHeld ?_
        refine qT 4 (some 26) (bN 11 95) HT_ HW_ hHeld ?_
        refine qT 5 (some 27) (bN 11 127) HT_ HW_ hHeld ?_
        refine qT 8 (some 30) (bN 11 383) HT_ HW_ hHeld ?_
        refine Zf (i:=7) (N:=some 29) (bN 11 511) rfl rfl (Q3 HT_.out kr) (by decide) (fun K hK=>?_)
        refine Zd Try.func41 kr rfl #[.agg #[.slice a5 χ.length a6,.slice a7 φ.length a8],.int .i64 δ] (by rfl) rfl rfl qM ?_
        with_reducible refine(newelref19_View.calls k1 _ _ χ _ _ φ δ bi bl bm _ ?side1 ?side2 ?side3 ?side4 cy.out).mono ?_
        (case side1=>exact(Kd.Qs bk.out HB.out))
        (case side2=>exact bu.out)
        (case side3=>exact(Kd.Qs bo.out HB.out))
        (case side4=>exact bv.out)
        rintro e e8 ⟨cf,cj,ck,rfl,af,ah,ba,hb⟩
        refine⟨_,rfl, ?_⟩
        have ai:=aK (Kd.Q8 af (Qn HB.out))
        have al:=aK (Kd.Q8 ah (Qn HB.out))
        have an:=aK (Kd.Q8 ba (Qn HB.out))
        replace ε :=sBk ε hb
        replace μ :=sBk μ hb
        replace κ :=sBk κ hb
        replace HB:=sHb hb
        (try clear hb)
        (try clear a4)
        (try clear hk)
        (try clear hi)
        (try clear af)
        (try clear ah)
        (try clear ba)
        obtain⟨cm,co,ca⟩:=Kd.Q7 ai.out
        (first|subst ca|(injection ca with aj aw ak;have ax:=aj.symm;have ay:=ak.symm;clear aj aw ak;subst ax;subst ay))
        obtain⟨cd,ce,cb⟩:=Kd.Q7 al.out
        (first|subst cb|(injection cb with aj aw ak;have ax:=aj.symm;have ay:=ak.symm;clear aj aw ak;subst ax;subst ay))
        obtain⟨dq,dr,cu⟩:=Kd.Q7 an.out
        (first|subst cu|(injection cu with aj aw ak;have ax:=aj.symm;have ay:=ak.symm;clear aj aw ak;subst ax;subst ay))
        refine hK.out _ _ ⟨qc ε,qc ε,qc ε,qc ε,qc ε,qc ε,qc ε,qc ε,qc ε,qc ε,qc μ,qc μ,qc κ,qc κ,qc κ,(sCl HB b4),(sCl HB b3),(sCl HB b2),(sCl HB b1),(sCl HB b0),(sCl HB az),(sCl HB av),(sCl HB au),(sCl HB ar),(sCl HB ap)⟩ (fun hHeld=>?_)
        clear hK K
        refine qN (some 29) ?_
        refine Zf (i:=9) (N:=some 31) (bN 11 1023) rfl rfl (Q3 HT_.out kr) (by decide) (fun K hK=>?_)
        refine Zd Try.func12 kr rfl #[.agg #[.int .i64 B,.int .i64 J,.int .i64 O,.int .i64 X,.int .i64 Y,.int .i64 Z,.int .i64 γ,.int .i64 ζ,.int .i64 θ,.int .i64 η],.agg #[.int .i64 ((Qb l1 δ).f0.f0),.int .i64 ((Qb l1 δ).f0.f1),.int .i64 ((Qb l1 δ).f0.f2),.int .i64 ((Qb l1 δ).f0.f3),.int .i64 ((Qb l1 δ).f0.f4.f0),.int .i64 ((Qb l1 δ).f0.f4.f1),.int .i64 ((Qb l1 δ).f0.f4.f2),.int .i64 ((Qb l1 δ).f1),.bool ((Qb l1 δ).f2),.bool ((Qb l1 δ).f3)],.agg #[.slice cm bi.length co,.slice cd bl.length ce,.slice dq bm.length dr],.agg #[.int .i64 a9,.int .i64 aa,.int .i64 ab]] (by rfl) rfl rfl qM ?_
        with_reducible refine(newelref21_Cost.calls k1 B J O X Y Z γ ζ θ η ((Qb l1 δ).f0.f0) ((Qb l1 δ).f0.f1) ((Qb l1 δ).f0.f2) ((Qb l1 δ).f0.f3) ((Qb l1 δ).f0.f4.f0) ((Qb l1 δ).f0.f4.f1) ((Qb l1 δ).f0.f4.f2) ((Qb l1 δ).f1) ((Qb l1 δ).f2) ((Qb l1 δ).f3) _ _ bi _ _ bl _ _ bm a9 aa ab bf _ ?side1 ?side2 ?side3 ?side4 ?side5 ?side6 b6.out).mono ?_
        (case side1=>exact(Kd.Qw ai.out).2.2)
        (case side2=>exact(Kd.Qw ai.out).2.1)
        (case side3=>exact(Kd.Qw al.out).2.2)
        (case side4=>exact(Kd.Qw al.out).2.1)
        (case side5=>exact(Kd.Qw an.out).2.2)
        (case side6=>exact(Kd.Qw an.out).2.1)
        rintro e fp ⟨rfl,hb⟩
        refine⟨_,rfl, ?_⟩
        replace ai:=sRb ai hb
        replace al:=sRb al hb
        replace an:=sRb an hb
        replace ε :=sBk ε hb
        replace μ :=sBk μ hb
        replace κ :=sBk κ hb
        replace HB:=sHb hb
        (try clear hb)
        (try clear a4)
        (try clear hk)
        (try clear hi)
        refine hK.out _ _ ⟨qc ε,qc ε,qc ε,qc ε,qc ε,qc ε,qc ε,qc ε,qc ε,qc ε,qc μ,qc μ,qc κ,qc κ,qc κ,(sCl HB b4),(sCl HB b3),(sCl HB b2),(sCl HB b1),(sCl HB b0),(sCl HB az),(sCl HB av),(sCl HB au),(sCl HB ar),(sCl HB ap)⟩ (fun hHeld=>?_)
        clear hK K
        refine qN (some 31) ?_
        refine qP 10 (some 14) (bN 11 2047) HT_ ?_
        refine Zi (Zc HT_.out kr) ?_
        try go_wp2_with (first|((with_reducible refine Qf (f:=42) rfl ?_);refine Qt (some 34) rfl rfl Try.func42 kr rfl #[.int .i64 a2,.int .i64 δ] rfl qM ?_;(with_reducible refine(newelref21_Fault.calls a2 δ false _ br.out).mono ?_);rintro e w' ⟨rfl,⟨nd,rfl⟩⟩;refine⟨_,rfl, ?_⟩))
        go_roundg k1
        case measure=>have:=am.out;omega
        case rel=>exact⟨(δ),(bf),(wrap64 (δ + 1)),qR,qR,qR,H',⟨by have:=am.out;omega⟩,⟨bka ε⟩,⟨bka μ⟩,⟨bka κ⟩,⟨bel⟩⟩
       ·rw[if_neg bc] at H
        have c28b0:=decide_eq_false bc
        clear bc
        have H':=aK H
        clear H
        try go_wp2
        replace ε :=aK (Qd ε.out)
        replace μ :=aK (Qd μ.out)
        replace κ :=aK (Qd κ.out)
        replace HB:=aK (Qg HB.out)
        have bg:0≤(δ :Int):=of_decide_eq_true (by assumption)
        have bh: δ < (l1.length:Int):=of_decide_eq_true (by assumption)
        obtain⟨ι,bs,ξ,ρ,σ,τ,ψ,ω,a0,a1,a3,ag⟩:=Yy ci.out δ bg bh
        have ap:=ag
        have ar:=a3
        have au:=a1
        have av:=a0
        have az:= ω
        have b0:= ψ
        have b1:= τ
        have b2:=σ
        have b3:=ρ
        have b4:= ξ
        cases bs
        replace ξ :=sCl HB ξ
        replace ρ:=sCl HB ρ
        replace σ:=sCl HB σ
        replace τ :=sCl HB τ
        replace ψ :=sCl HB ψ
        replace ω :=sCl HB ω
        replace a0:=sCl HB a0
        replace a1:=sCl HB a1
        replace a3:=sCl HB a3
        replace ag:=sCl HB ag
        replace bg:=eq_true bg
        replace bh:=eq_true bh
        refine Ze (n:=11) (S:=fun w'=>w'.cell? ⟨ν,0,none⟩=some (.int .i64 B)∧w'.cell? ⟨ν,1,none⟩=some (.int .i64 J)∧w'.cell? ⟨ν,2,none⟩=some (.int .i64 O)∧w'.cell? ⟨ν,3,none⟩=some (.int .i64 X)∧w'.cell? ⟨ν,4,none⟩=some (.int .i64 Y)∧w'.cell? ⟨ν,5,none⟩=some (.int .i64 Z)∧w'.cell? ⟨ν,6,none⟩=some (.int .i64 γ)∧w'.cell? ⟨ν,7,none⟩=some (.int .i64 ζ)∧w'.cell? ⟨ν,8,none⟩=some (.int .i64 θ)∧w'.cell? ⟨ν,9,none⟩=some (.int .i64 η)∧w'.cell? ⟨bn,0,none⟩=some (.slice a5 χ.length a6)∧w'.cell? ⟨bn,1,none⟩=some (.slice a7 φ.length a8)∧w'.cell? ⟨b5,0,none⟩=some (.int .i64 a9)∧w'.cell? ⟨b5,1,none⟩=some (.int .i64 aa)∧w'.cell? ⟨b5,2,none⟩=some (.int .i64 ab)∧w'.cell? (ι.add ((δ).toNat * 10))=some (.int .i64 ((Qb l1 δ).f0.f0))∧w'.cell? ⟨(ι.add ((δ).toNat * 10)).block,(ι.add ((δ).toNat * 10)).off+1,none⟩=some (.int .i64 ((Qb l1 δ).f0.f1))∧w'.cell? ⟨(ι.add ((δ).toNat * 10)).block,(ι.add ((δ).toNat * 10)).off+2,none⟩=some (.int .i64 ((Qb l1 δ).f0.f2))∧w'.cell? ⟨(ι.add ((δ).toNat * 10)).block,(ι.add ((δ).toNat * 10)).off+3,none⟩=some (.int .i64 ((Qb l1 δ).f0.f3))∧w'.cell? ⟨(ι.add ((δ).toNat * 10)).block,(ι.add ((δ).toNat * 10)).off+4,none⟩=some (.int .i64 ((Qb l1 δ).f0.f4.f0))∧w'.cell? ⟨(ι.add ((δ).toNat * 10)).block,(ι.add ((δ).toNat * 10)).off+5,none⟩=some (.int .i64 ((Qb l1 δ).f0.f4.f1))∧w'.cell? ⟨(ι.add ((δ).toNat * 10)).block,(ι.add ((δ).toNat * 10)).off+6,none⟩=some (.int .i64 ((Qb l1 δ).f0.f4.f2))∧w'.cell? ⟨(ι.add ((δ).toNat * 10)).block,(ι.add ((δ).toNat * 10)).off+7,none⟩=some (.int .i64 ((Qb l1 δ).f1))∧w'.cell? ⟨(ι.add ((δ).toNat * 10)).block,(ι.add ((δ).toNat * 10)).off+8,none⟩=some (.bool ((Qb l1 δ).f2))∧w'.cell? ⟨(ι.add ((δ).toNat * 10)).block,(ι.add ((δ).toNat * 10)).off+9,none⟩=some (.bool ((Qb l1 δ).f3))) (ds:=[]) #[false,false,false,false,false,false,false,false,false,false,false] kr rfl rfl ⟨(Qa ε.out 0).trans rfl,(Qa ε.out 1).trans rfl,(Qa ε.out 2).trans rfl,(Qa ε.out 3).trans rfl,(Qa ε.out 4).trans rfl,(Qa ε.out 5).trans rfl,(Qa ε.out 6).trans rfl,(Qa ε.out 7).trans rfl,(Qa ε.out 8).trans rfl,(Qa ε.out 9).trans rfl,(Qa μ.out 0).trans rfl,(Qa μ.out 1).trans rfl,(Qa κ.out 0).trans rfl,(Qa κ.out 1).trans rfl,(Qa κ.out 2).trans rfl,(sCl HB b4),(sCl HB b3),(sCl HB b2),(sCl HB b1),(sCl HB b0),(sCl HB az),(sCl HB av),(sCl HB au),(sCl HB ar),(sCl HB ap)⟩ (fun hHeld=>?_);refine Q5 newelref21_Pick.Vp newelref21_Pick.Kg (fun HT_ HW_=>?_)
        generalize wr.drew=jo at ε μ κ HB ξ ρ σ τ ψ ω a0 a1 a3 ag hHeld ⊢
        refine qP 1 (some 23) (bN 11 2) HT_ ?_
        refine qP 2 (some 24) (bN 11 6) HT_ ?_
        refine qP 3 (some 25) (bN 11 14) HT_ ?_
        refine qP 6 (some 28) (bN 11 78) HT_ ?_
        refine qT 0 (some 22) (bN 11 79) HT_ HW_ hHeld ?_
        refine qT 4 (some 26) (bN 11 95) HT_ HW_ hHeld ?_
        refine qT 5 (some 27) (bN 11 127) HT_ HW_ hHeld ?_
        refine qT 8 (some 30) (bN 11 383) HT_ HW_ hHeld ?_
        refine Zf (i:=7) (N:=some 29) (bN 11 511) rfl rfl (Q3 HT_.out kr) (by decide) (fun K hK=>?_)
        refine Zd Try.func41 kr rfl #[.agg #[.slice a5 χ.length a6,.slice a7 φ.length a8],.int .i64 δ] (by rfl) rfl rfl qM ?_
        with_reducible refine(newelref19_View.calls k1 _ _ χ _ _ φ δ bi bl bm _ ?side1 ?side2 ?side3 ?side4 cy.out).mono ?_
        (case side1=>exact(Kd.Qs bk.out HB.out))
        (case side2=>exact bu.out)
        (case side3=>exact(Kd.Qs bo.out HB.out))
        (case side4=>exact bv.out)
        rintro e h9 ⟨cf,cj,ck,rfl,af,ah,ba,hb⟩
        refine⟨_,rfl, ?_⟩
        have ai:=aK (Kd.Q8 af (Qn HB.out))
        have al:=aK (Kd.Q8 ah (Qn HB.out))
        have an:=aK (Kd.Q8 ba (Qn HB.out))
        replace ε :=sBk ε hb
        replace μ :=sBk μ hb
        replace κ :=sBk κ hb
        replace HB:=sHb hb
        (try clear hb)
        (try clear a4)
        (try clear hk)
        (try clear hi)
        (try clear af)
        (try clear ah)
        (try clear ba)
        obtain⟨dt,du,cv⟩:=Kd.Q7 ai.out
        (first|subst cv|(injection cv with aj aw ak;have ax:=aj.symm;have ay:=ak.symm;clear aj aw ak;subst ax;subst ay))
        obtain⟨dv,dw,d0⟩:=Kd.Q7 al.out
        (first|subst d0|(injection d0 with aj aw ak;have ax:=aj.symm;have ay:=ak.symm;clear aj aw ak;subst ax;subst ay))
        obtain⟨dy,dz,d1⟩:=Kd.Q7 an.out
        (first|subst d1|(injection d1 with aj aw ak;have ax:=aj.symm;have ay:=ak.symm;clear aj aw ak;subst ax;subst ay))
        refine hK.out _ _ ⟨qc ε,qc ε,qc ε,qc ε,qc ε,qc ε,qc ε,qc ε,qc ε,qc ε,qc μ,qc μ,qc κ,qc κ,qc κ,(sCl HB b4),(sCl HB b3),(sCl HB b2),(sCl HB b1),(sCl HB b0),(sCl HB az),(sCl HB av),(sCl HB au),(sCl HB ar),(sCl HB ap)⟩ (fun hHeld=>?_)
        clear hK K
        refine qN (some 29) ?_
        refine Zf (i:=9) (N:=some 31) (bN 11 1023) rfl rfl (Q3 HT_.out kr) (by decide) (fun K hK=>?_)
        refine Zd Try.func12 kr rfl #[.agg #[.int .i64 B,.int .i64 J,.int .i64 O,.int .i64 X,.int .i64 Y,.int .i64 Z,.int .i64 γ,.int .i64 ζ,.int .i64 θ,.int .i64 η],.agg #[.int .i64 ((Qb l1 δ).f0.f0),.int .i64 ((Qb l1 δ).f0.f1),.int .i64 ((Qb l1 δ).f0.f2),.int .i64 ((Qb l1 δ).f0.f3),.int .i64 ((Qb l1 δ).f0.f4.f0),.int .i64 ((Qb l1 δ).f0.f4.f1),.int .i64 ((Qb l1 δ).f0.f4.f2),.int .i64 ((Qb l1 δ).f1),.bool ((Qb l1 δ).f2),.bool ((Qb l1 δ).f3)],.agg #[.slice dt bi.length du,.slice dv bl.length dw,.slice dy bm.length dz],.agg #[.int .i64 a9,.int .i64 aa,.int .i64 ab]] (by rfl) rfl rfl qM ?_
        with_reducible refine(newelref21_Cost.calls k1 B J O X Y Z γ ζ θ η ((Qb l1 δ).f0.f0) ((Qb l1 δ).f0.f1) ((Qb l1 δ).f0.f2) ((Qb l1 δ).f0.f3) ((Qb l1 δ).f0.f4.f0) ((Qb l1 δ).f0.f4.f1) ((Qb l1 δ).f0.f4.f2) ((Qb l1 δ).f1) ((Qb l1 δ).f2) ((Qb l1 δ).f3) _ _ bi _ _ bl _ _ bm a9 aa ab bf _ ?side1 ?side2 ?side3 ?side4 ?side5 ?side6 b6.out).mono ?_
        (case side1=>exact(Kd.Qw ai.out).2.2)
        (case side2=>exact(Kd.Qw ai.out).2.1)
        (case side3=>exact(Kd.Qw al.out).2.2)
        (case side4=>exact(Kd.Qw al.out).2.1)
        (case side5=>exact(Kd.Qw an.out).2.2)
        (case side6=>exact(Kd.Qw an.out).2.1)
        rintro e kp ⟨rfl,hb⟩
        refine⟨_,rfl, ?_⟩
        replace ai:=sRb ai hb
        replace al:=sRb al hb
        replace an:=sRb an hb
        replace ε :=sBk ε hb
        replace μ :=sBk μ hb
        replace κ :=sBk κ hb
        replace HB:=sHb hb
        (try clear hb)
        (try clear a4)
        (try clear hk)
        (try clear hi)
        refine hK.out _ _ ⟨qc ε,qc ε,qc ε,qc ε,qc ε,qc ε,qc ε,qc ε,qc ε,qc ε,qc μ,qc μ,qc κ,qc κ,qc κ,(sCl HB b4),(sCl HB b3),(sCl HB b2),(sCl HB b1),(sCl HB b0),(sCl HB az),(sCl HB av),(sCl HB au),(sCl HB ar),(sCl HB ap)⟩ (fun hHeld=>?_)
        clear hK K
        refine qN (some 31) ?_
        refine qP 10 (some 14) (bN 11 2047) HT_ ?_
        refine Zi (Zc HT_.out kr) ?_
        try go_wp2_with (first|((with_reducible refine Qf (f:=42) rfl ?_);refine Qt (some 34) rfl rfl Try.func42 kr rfl #[.int .i64 a2,.int .i64 δ] rfl qM ?_;(with_reducible refine(newelref21_Fault.calls a2 δ false _ br.out).mono ?_);rintro e w' ⟨rfl,⟨nd,rfl⟩⟩;refine⟨_,rfl, ?_⟩))
        go_roundg k1
        case measure=>have:=am.out;omega
        case rel=>exact⟨(bp),(ao),(wrap64 (δ + 1)),qR,qR,qR,H',⟨by have:=am.out;omega⟩,⟨bka ε⟩,⟨bka μ⟩,⟨bka κ⟩,⟨bel⟩⟩
    ·rw[if_neg c10] at H
     exact absurd H (by simp)
   ·rw[if_neg c9] at H
    have c9b0:=decide_eq_false c9
    clear c9
    obtain rfl:=Option.some.inj H
    go_wp2
    go_ret
    exact⟨rfl,HB.out⟩
def newelref19_Few.f (B:List (S36)) (Z:List (S86)):Option (Bool):=if (B.length:Int)≤130 then (some (decide ((Z.length:Int)≤520))) else (some false)
set_option maxHeartbeats 8000000 in
set_option maxRecDepth 100000 in
theorem newelref19_Few.calls (φ :Option Addr) (κ :Nat) (B:List (S36)) (ψ :Option Addr) (χ :Nat) (Z:List (S86)) (r:Bool) (w:World) (a0:Kd.C k36 w φ B.length B) (a2:B.length ≤ κ) (bb:Kd.C k86 w ψ Z.length Z) (bc:Z.length ≤ χ) (h:newelref19_Few.f B Z=some r):
 Calls Try.prog 36 #[.agg #[.slice φ B.length κ,.slice ψ Z.length χ]] w fun e w'=>e = .returned (.bool r)∧Below w.heap.size w w':=by
 have dc:=Try.underlying50
 have ah:=aK a0
 have bl:=aK a2
 clear a0 a2
 have bk:=aK bb
 have dr:=aK bc
 clear bb bc
 have HB:=aK (Below.refl w.heap.size w)
 have H:(if (B.length:Int)≤130 then (some (decide ((Z.length:Int)≤520))) else (some false))=some r:=h
 clear h
 by_cases c2:(B.length:Int)≤130
 ·rw[if_pos c2] at H
  have c2b0:=decide_eq_true c2
  have c2b1:decide (B.length≤130)=true:=decide_eq_true (by omega)
  clear c2
  obtain rfl:=Option.some.inj H
  go_enter Try.func36,Try.ntmps36
  go_wp2_with (first|((with_reducible refine Qe (N:=1) rfl ?_);(try(refine Zs (by rfl) ?_;dsimp only));refine Zh ?hg (N:=1) ?hd (cs:=#[.slice φ B.length κ,.slice ψ Z.length χ]) (t:=50) ?hr ?_;(case hd=>rfl);(case hg=>rfl);(case hr=>first|(go_simp;done)|(go_simp;rfl));intro J hg w3 hbox hb;have ρ:=aK (Q2 (by repeat(first|(with_reducible first|exact HB.out|apply Qo|apply Qi|apply Qg)|exact HB.out)) hb);have τ :=aK (hbox);have ω :=aK ((by rw[hg];exact(Qn (by repeat(first|(with_reducible first|exact HB.out|apply Qo|apply Qi|apply Qg)|exact HB.out))):w.heap.size≤J));have a3:=aK ((by rw[hg];exact(Qn (by repeat(first|(with_reducible first|exact HB.out|apply Qo|apply Qi|apply Qg)|exact HB.out))):w.heap.size≤J));clear HB;have HB:=ρ;have O:= τ;have Y:= ω;have X:=a3;clear ρ τ ω a3;clear hb hbox hg;obtain⟨a9,af,ai,aj⟩:=qD2 O.out))
  go_ret
  exact⟨by first|rfl|(simp[Qk,Qj] <;> rfl)|(simp[*,Qk,Qj] <;> rfl),by repeat(first|(with_reducible first|exact HB.out|apply Qo|apply Qi|apply Qg|refine Qr ?_ X.out)|exact HB.out)⟩
 ·rw[if_neg c2] at H
  have c2b0:=decide_eq_false c2
  have c2b1:decide (B.length≤130)=false:=decide_eq_false (by omega)
  clear c2
  obtain rfl:=Option.some.inj H
  go_enter Try.func36,Try.ntmps36
  go_wp2_with (first|((with_reducible refine Qe (N:=1) rfl ?_);(try(refine Zs (by rfl) ?_;dsimp only));refine Zh ?hg (N:=1) ?hd (cs:=#[.slice φ B.length κ,.slice ψ Z.length χ]) (t:=50) ?hr ?_;(case hd=>rfl);(case hg=>rfl);(case hr=>first|(go_simp;done)|(go_simp;rfl));intro J hg w5 hbox hb;have ρ:=aK (Q2 (by repeat(first|(with_reducible first|exact HB.out|apply Qo|apply Qi|apply Qg)|exact HB.out)) hb);have τ :=aK (hbox);have ω :=aK ((by rw[hg];exact(Qn (by repeat(first|(with_reducible first|exact HB.out|apply Qo|apply Qi|apply Qg)|exact HB.out))):w.heap.size≤J));have a3:=aK ((by rw[hg];exact(Qn (by repeat(first|(with_reducible first|exact HB.out|apply Qo|apply Qi|apply Qg)|exact HB.out))):w.heap.size≤J));clear HB;have HB:=ρ;have O:= τ;have Y:= ω;have X:=a3;clear ρ τ ω a3;clear hb hbox hg;obtain⟨σ,a6,ao,b2⟩:=qD2 O.out))
  go_ret
  exact⟨by first|rfl|(simp[Qk,Qj] <;> rfl)|(simp[*,Qk,Qj] <;> rfl),by repeat(first|(with_reducible first|exact HB.out|apply Qo|apply Qi|apply Qg|refine Qr ?_ X.out)|exact HB.out)⟩
def newellaw21_few.f (B:Int) (J:Int) (O:Int) (X:Int) (Y:Int) (Z:Int) (γ:Int) (ζ :Int) (θ :Int) (η :Int) (ν :List (S31)) (χ :Int) (ξ :List (S36)) (σ:List (S86)):Option (Bool):=if (ν.length:Int)≤10 then ((newelref19_Few.f ξ σ).bind fun ι =>(some ι)) else (some false)
set_option maxHeartbeats 8000000 in
set_option maxRecDepth 100000 in
theorem newellaw21_few.calls (B:Int) (J:Int) (O:Int) (X:Int) (Y:Int) (Z:Int) (γ:Int) (ζ :Int) (θ :Int) (η :Int) (ψ :Option Addr) (a0:Nat) (ν :List (S31)) (χ :Int) (a1:Option Addr) (a2:Nat) (ξ :List (S36)) (a3:Option Addr) (a5:Nat) (σ:List (S86)) (r:Bool) (w:World) (cw:Kd.C k31 w ψ ν.length ν) (d0: ν.length≤a0) (d4:Kd.C k36 w a1 ξ.length ξ) (d6: ξ.length≤a2) (d7:Kd.C k86 w a3 σ.length σ) (d8:σ.length≤a5) (h:newellaw21_few.f B J O X Y Z γ ζ θ η ν χ ξ σ=some r):
 Calls Try.prog 13 #[.agg #[.int .i64 B,.int .i64 J,.int .i64 O,.int .i64 X,.int .i64 Y,.int .i64 Z,.int .i64 γ,.int .i64 ζ,.int .i64 θ,.int .i64 η,.slice ψ ν.length a0,.int .i64 χ,.slice a1 ξ.length a2,.slice a3 σ.length a5]] w fun e w'=>e = .returned (.bool r)∧Below w.heap.size w w':=by
 have ew:=Try.underlying52
 have dc:=Try.underlying50
 have b8:=aK cw
 have b9:=aK d0
 clear cw d0
 have bd:=aK d4
 have bf:=aK d6
 clear d4 d6
 have bg:=aK d7
 have bh:=aK d8
 clear d7 d8
 have HB:=aK (Below.refl w.heap.size w)
 have H:(if (ν.length:Int)≤10 then ((newelref19_Few.f ξ σ).bind fun ι =>(some ι)) else (some false))=some r:=h
 clear h
 by_cases c2:(ν.length:Int)≤10
 ·rw[if_pos c2] at H
  have c2b0:=decide_eq_true c2
  have c2b1:decide (ν.length≤10)=true:=decide_eq_true (by omega)
  clear c2
  obtain⟨ι,a7,H⟩:=qO H
  have A3:=aK a7
  clear a7
  obtain rfl:=Option.some.inj H
  go_enter Try.func13,Try.ntmps13
  go_wp2_with (first|((with_reducible refine Qe (N:=1) rfl ?_);refine qE 1 #[.int .i64 B,.int .i64 J,.int .i64 O,.int .i64 X,.int .i64 Y,.int .i64 Z,.int .i64 γ,.int .i64 ζ,.int .i64 θ,.int .i64 η,.slice ψ ν.length a0,.int .i64 χ,.slice a1 ξ.length a2,.slice a3 σ.length a5] 52 ?_;intro ε hg w4 hbox hb;have δ :=aK hbox;have κ :=sGe hg;have μ :=sGe hg;replace HB:=sHb hb;clear hb hbox hg;have br:w4.cell? ⟨ε,0,none⟩=some (.int .i64 B):=(Qa δ.out 0).trans rfl;have cd:w4.cell? ⟨ε,1,none⟩=some (.int .i64 J):=(Qa δ.out 1).trans rfl;have ce:w4.cell? ⟨ε,2,none⟩=some (.int .i64 O):=(Qa δ.out 2).trans rfl;have cv:w4.cell? ⟨ε,3,none⟩=some (.int .i64 X):=(Qa δ.out 3).trans rfl;have dr:w4.cell? ⟨ε,4,none⟩=some (.int .i64 Y):=(Qa δ.out 4).trans rfl;have dv:w4.cell? ⟨ε,5,none⟩=some (.int .i64 Z):=(Qa δ.out 5).trans rfl;have dw:w4.cell? ⟨ε,6,none⟩=some (.int .i64 γ):=(Qa δ.out 6).trans rfl;have dx:w4.cell? ⟨ε,7,none⟩=some (.int .i64 ζ):=(Qa δ.out 7).trans rfl;have aw:w4.cell? ⟨ε,8,none⟩=some (.int .i64 θ):=(Qa δ.out 8).trans rfl;have ax:w4.cell? ⟨ε,9,none⟩=some (.int .i64 η):=(Qa δ.out 9).trans rfl;have ω :w4.cell? ⟨ε,10,none⟩=some (.slice ψ ν.length a0):=(Qa δ.out 10).trans rfl;have a6:w4.cell? ⟨ε,11,none⟩=some (.int .i64 χ):=(Qa δ.out 11).trans rfl;have ac:w4.cell? ⟨ε,12,none⟩=some (.slice a1 ξ.length a2):=(Qa δ.out 12).trans rfl;have ae:w4.cell? ⟨ε,13,none⟩=some (.slice a3 σ.length a5):=(Qa δ.out 13).trans rfl;have cg:=Qh δ.out 0;have ch:=Qh δ.out 1;have cq:=Qh δ.out 2;have e3:=Qh δ.out 3;have er:=Qh δ.out 4;have ez:=Qh δ.out 5;have f7:=Qh δ.out 6;have ff:=Qh δ.out 7;have ay:=Qh δ.out 8;have az:=Qh δ.out 9;have af:=Qh δ.out 10;have ag:=Qh δ.out 11;have ah:=Qh δ.out 12;have ai:=Qh δ.out 13)|(go_at_call 36;(with_reducible refine(newelref19_Few.calls _ _ ξ _ _ σ ι _ ?side1 ?side2 ?side3 ?side4 A3.out).mono ?_);(case side1=>exact(Kd.Qs bd.out HB.out));(case side2=>exact bf.out);(case side3=>exact(Kd.Qs bg.out HB.out));(case side4=>exact bh.out);rintro e w6 ⟨rfl,hb⟩;have ρ:=aK (Qz (g:= ε) (o:=.cells #[.int .i64 B,.int .i64 J,.int .i64 O,.int .i64 X,.int .i64 Y,.int .i64 Z,.int .i64 γ,.int .i64 ζ,.int .i64 θ,.int .i64 η,.slice ψ ν.length a0,.int .i64 χ,.slice a1 ξ.length a2,.slice a3 σ.length a5] 52 (0,0)) δ.out hb);have τ :=aK (Q2 HB.out hb);clear δ;clear HB;have δ :=ρ;have HB:= τ;clear ρ τ;(try clear hb);(try clear a4);(try clear hk);(try clear hi)))
  go_ret
  exact⟨rfl,HB.out⟩
 ·rw[if_neg c2] at H
  have c2b0:=decide_eq_false c2
  have c2b1:decide (ν.length≤10)=false:=decide_eq_false (by omega)
  clear c2
  obtain rfl:=Option.some.inj H
  go_enter Try.func13,Try.ntmps13
  go_wp2_with (first|((with_reducible refine Qe (N:=1) rfl ?_);refine qE 1 #[.int .i64 B,.int .i64 J,.int .i64 O,.int .i64 X,.int .i64 Y,.int .i64 Z,.int .i64 γ,.int .i64 ζ,.int .i64 θ,.int .i64 η,.slice ψ ν.length a0,.int .i64 χ,.slice a1 ξ.length a2,.slice a3 σ.length a5] 52 ?_;intro ε hg w7 hbox hb;have δ :=aK hbox;have κ :=sGe hg;have μ :=sGe hg;replace HB:=sHb hb;clear hb hbox hg;have a8:w7.cell? ⟨ε,0,none⟩=some (.int .i64 B):=(Qa δ.out 0).trans rfl;have a9:w7.cell? ⟨ε,1,none⟩=some (.int .i64 J):=(Qa δ.out 1).trans rfl;have ao:w7.cell? ⟨ε,2,none⟩=some (.int .i64 O):=(Qa δ.out 2).trans rfl;have φ :w7.cell? ⟨ε,3,none⟩=some (.int .i64 X):=(Qa δ.out 3).trans rfl;have am:w7.cell? ⟨ε,4,none⟩=some (.int .i64 Y):=(Qa δ.out 4).trans rfl;have b3:w7.cell? ⟨ε,5,none⟩=some (.int .i64 Z):=(Qa δ.out 5).trans rfl;have b4:w7.cell? ⟨ε,6,none⟩=some (.int .i64 γ):=(Qa δ.out 6).trans rfl;have bc:w7.cell? ⟨ε,7,none⟩=some (.int .i64 ζ):=(Qa δ.out 7).trans rfl;have bi:w7.cell? ⟨ε,8,none⟩=some (.int .i64 θ):=(Qa δ.out 8).trans rfl;have bj:w7.cell? ⟨ε,9,none⟩=some (.int .i64 η):=(Qa δ.out 9).trans rfl;have aj:w7.cell? ⟨ε,10,none⟩=some (.slice ψ ν.length a0):=(Qa δ.out 10).trans rfl;have ak:w7.cell? ⟨ε,11,none⟩=some (.int .i64 χ):=(Qa δ.out 11).trans rfl;have al:w7.cell? ⟨ε,12,none⟩=some (.slice a1 ξ.length a2):=(Qa δ.out 12).trans rfl;have an:w7.cell? ⟨ε,13,none⟩=some (.slice a3 σ.length a5):=(Qa δ.out 13).trans rfl;have aa:=Qh δ.out 0;have ab:=Qh δ.out 1;have b2:=Qh δ.out 2;have bk:=Qh δ.out 3;have bl:=Qh δ.out 4;have bm:=Qh δ.out 5;have bn:=Qh δ.out 6;have bo:=Qh δ.out 7;have bp:=Qh δ.out 8;have bq:=Qh δ.out 9;have ap:=Qh δ.out 10;have ar:=Qh δ.out 11;have au:=Qh δ.out 12;have av:=Qh δ.out 13))
  go_ret
  exact⟨rfl,HB.out⟩
end Go.Proofs.Ytmfffemidlhcpaa.C
