/- PROVED: the law FlashWrites answers true, and leaves its arguments as they were, whatever they are: what any record, written up to any cut, makes of any flash, and which record is the latest, is the document's. Its conditions: the package's table reads as the program's text lays it (the card ties it); none beyond the form's own reach. -/
import Derived.Test.YtickbejailcehaaDoorQFlashWrites15
namespace Go.Proofs.YtickbejailcehaaDoor
open Go.RowKit Go.Proofs.YtickbejailcehaaDoorW.PrintWords Go.Proofs.YtickbejailcehaaDoor.C Go.Proofs.YtickbejailcehaaDoor.Par
theorem K4:Xu:=by
  intro x0 A0 c0 A1 c1 x1 A2 c2 x2 w w0 l0 g0 l1 g1 w1 l2 g2 w2 ht
  refine(newellaw12_FlashWrites.calls 400000 A0 c0 x0.f0 A1 c1 x0.f1 x1.f0 x1.f1 x1.f2 A2 c2 x1.f3 x2 true w g0 l0 g1 l1 g2 l2 (Flash.Wq x0.f0 x0.f1 (fun x hx=>Wire.U9 (w0.1.1 x hx)) (fun x hx=>Wire.U9 (w0.2.1 x hx)) (Wire.Lo w1.1) (Wire.Lo w1.2.1) (Wire.Lo w1.2.2.1) (fun x hx=>Wire.U9 (w1.2.2.2.1 x hx)) x2 400000 (by omega)) ht).mono ?_
  rintro e w' ⟨rfl,hb⟩
  exact⟨rfl,hb⟩
theorem flashWrites_holds:Rows.FlashWritesCardSaid:=RowFlashWrites.card K4
#print axioms flashWrites_holds
end Go.Proofs.YtickbejailcehaaDoor
