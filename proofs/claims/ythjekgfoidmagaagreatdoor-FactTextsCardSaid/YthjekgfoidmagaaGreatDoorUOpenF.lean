/- OpenFact -/
import Derived.Test.YthjekgfoidmagaaGreatDoorUMoreT
set_option maxHeartbeats 16000000
set_option maxRecDepth 100000
namespace Go.Proofs.YthjekgfoidmagaaGreatDoor
open Go.Proofs.Tryz
open Go.RowKit Num Dt Go.ChangeShapes Go.WideShapes Go.ChangeAt
section
variable {H:Type}{enc:TypeId×Value->H}{w:World}{base:Nat}{held:Bool}
theorem uU{v:Value}{d:DataW H}{ps:List MemPlace}(hv:Value.okWide prog w .any base 29 v)(h:DataW.Trod enc prog w 0 (fun _=>true) held 29 v d ps):
  ∃x:aF,v=.agg x.arr/\x.f.Behind w x.pa x.oa/\x.fits:=by
 obtain⟨cs,rfl,_⟩:=okWide_struct underlying29 hv;obtain⟨n,hn⟩:=h;obtain⟨x,e,h1,h2⟩:=tK hn;refine⟨x,?_,h1,h2⟩;have e2:cs.toList=x.arr.toList:=e;rw[Array.toList_inj.1 e2]
end
end Go.Proofs.YthjekgfoidmagaaGreatDoor
