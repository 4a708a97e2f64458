/- PROVED: the law FlashWrites answers true, and leaves its arguments as they were, whatever they are: what any record, written up to any cut, makes of any flash, and which record is the latest, is the document's. Its conditions: the package's table reads as the program's text lays it (the card ties it); none beyond the form's own reach. -/
import Derived.Test.YtickbejailcehaaDoorQFlashWrites15
namespace Go.Proofs.YtickbejailcehaaDoor
open Go.RowKit Go.Proofs.YtickbejailcehaaDoorW.PrintWords Go.Proofs.YtickbejailcehaaDoor.C Go.Proofs.YtickbejailcehaaDoor.Par
theorem K4:Xu:=by
  intro O A0 c0 A1 c1 U A2 c2 x2 w w0 l0 D l1 X w1 I B w2 ht
  refine(newellaw12_FlashWrites.calls 400000 A0 c0 O.f0 A1 c1 O.f1 U.f0 U.f1 U.f2 A2 c2 U.f3 x2 true w D l0 X l1 B I (Flash.Wq O.f0 O.f1 (fun x hx=>Wire.U9 (w0.1.1 x hx)) (fun x hx=>Wire.U9 (w0.2.1 x hx)) (Wire.Lo w1.1) (Wire.Lo w1.2.1) (Wire.Lo w1.2.2.1) (fun x hx=>Wire.U9 (w1.2.2.2.1 x hx)) x2 400000 (by omega)) ht).mono ?_
  rintro e w' ⟨rfl,hb⟩
  exact⟨rfl,hb⟩
theorem flashWrites_holds:Rows.FlashWritesCardSaid:=RowFlashWrites.card K4
#print axioms flashWrites_holds
end Go.Proofs.YtickbejailcehaaDoor
