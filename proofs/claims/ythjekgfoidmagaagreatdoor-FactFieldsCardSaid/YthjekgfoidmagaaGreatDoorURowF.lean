/- RowF OpenFact -/
import Derived.Test.YthjekgfoidmagaaGreatDoorULog
import Derived.Lib.AppendZeros
set_option maxHeartbeats 16000000
set_option maxRecDepth 100000
namespace Go.Proofs.YthjekgfoidmagaaGreatDoor
open Go.Proofs.Tryz
section
open Go Go.RowKit Num
def aAh:Value:=.agg #[.string ⟨#[]⟩,.int .i64 0,.bool false,.int .i64 0,.int .i64 0,.string ⟨#[]⟩,.string ⟨#[]⟩,.string ⟨#[]⟩,.string ⟨#[]⟩,.string ⟨#[]⟩,.string ⟨#[]⟩,.string ⟨#[]⟩,.string ⟨#[]⟩,.string ⟨#[]⟩,.string ⟨#[]⟩,.string ⟨#[]⟩,.string ⟨#[]⟩,.string ⟨#[]⟩,.slice none 0 0,.slice none 0 0,.int .i64 0]
theorem Ul:(prog.info? 29).map (fun i=>(i.zero,i.size,i.bytes))=some (some aAh,21,312):=by kernel_rfl
end
section
open Go.RowKit Num Dt Go.ChangeShapes Go.WideShapes Go.ChangeAt
section
variable {H:Type}{enc:TypeId×Value->H}{w:World}{base:Nat}{held:Bool}
theorem uU{v:Value}{d:DataW H}{ps:List MemPlace}(hv:Value.okWide prog w .any base 29 v)(h:DataW.Trod enc prog w 0 (fun _=>true) held 29 v d ps):
  ∃x:aF,v=.agg x.arr/\x.f.Behind w x.pa x.oa/\x.fits:=by
 obtain⟨cs,rfl,_⟩:=okWide_struct underlying29 hv;obtain⟨n,hn⟩:=h;obtain⟨x,e,h1,h2⟩:=tK hn;refine⟨x,?_,h1,h2⟩;have e2:cs.toList=x.arr.toList:=e;rw[Array.toList_inj.1 e2]
end
end
end Go.Proofs.YthjekgfoidmagaaGreatDoor
