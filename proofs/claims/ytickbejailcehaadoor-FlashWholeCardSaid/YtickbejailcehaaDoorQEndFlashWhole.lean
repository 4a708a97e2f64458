/- PROVED: the law FlashWhole answers true, and leaves its arguments as they were, whatever they are: behind a write the latest record is the new one, whole, or the old one, whole. Its conditions: the package's table reads as the program's text lays it (the card ties it); none beyond the form's own reach. -/
import Derived.Test.YtickbejailcehaaDoorQFlashWhole13
namespace Go.Proofs.YtickbejailcehaaDoor
open Go.RowKit Go.Proofs.YtickbejailcehaaDoorW.PrintWords Go.Proofs.YtickbejailcehaaDoor.C Go.Proofs.YtickbejailcehaaDoor.Par
theorem Kj:Xu:=by
  intro x0 A0 c0 A1 c1 x1 A2 c2 x2 w w0 l0 g0 l1 g1 w1 l2 g2 w2 ht
  refine(newellaw12_FlashWhole.calls 40000 A0 c0 x0.f0 A1 c1 x0.f1 x1.f0 x1.f1 x1.f2 A2 c2 x1.f3 x2 true w g0 l0 g1 l1 g2 l2 (Flash.Wm x0.f0 x0.f1 (fun x hx=>Wire.Ua (w0.1.1 x hx)) (fun x hx=>Wire.Ua (w0.2.1 x hx)) (Wire.Wn w1.1) (Wire.Wn w1.2.1) (Wire.Wn w1.2.2.1) (fun x hx=>Wire.Ua (w1.2.2.2.1 x hx)) x2 40000 (by omega)) ht).mono ?_
  rintro e w' ⟨rfl,hb⟩
  exact⟨rfl,hb⟩
theorem flashWhole_holds:Rows.FlashWholeCardSaid:=RowFlashWhole.card Kj
#print axioms flashWhole_holds
end Go.Proofs.YtickbejailcehaaDoor

