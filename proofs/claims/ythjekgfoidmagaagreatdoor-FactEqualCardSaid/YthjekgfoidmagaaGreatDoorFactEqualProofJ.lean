/- FactEqualProof -/
import Derived.Test.YthjekgfoidmagaaGreatDoorUEqualOver
set_option maxHeartbeats 16000000
set_option maxRecDepth 100000
namespace Go.Proofs.YthjekgfoidmagaaGreatDoor.factEqual
open Go.RowKit Num Dt Go.ChangeShapes Go.WideShapes Go.ChangeAt
theorem proved:Rows.FactEqualCardSaid :=
 Claim7.holds_tied_plain_at .later [] Rows.factEqualCard.laidKinds true Rows.factEqualCard.stood.harness true over (fun _ h=>by cases h) (by kernel_rfl) (fun _ h=>by cases h) factEqual_row_tie rfl ⟨rfl,rfl⟩ (by kernel_rfl) rfl
  (fun f fn hf hfn=>by
   obtain rfl : f = 7 := Option.some.inj ((show Tryz.prog.funcNamed "tranche/tranchelaw13.FactEqual" = some 7 by kernel_rfl).symm.trans hf) |>.symm
   obtain rfl:fn=Tryz.f7:=(Option.some.inj (Tryz.func7.symm.trans hfn)).symm;exact⟨by kernel_rfl,fun j t ht=>by
    rw[Tryz.params7] at ht;have hm:t∈[29,29]:=by simpa using Array.mem_of_getElem? ht
    have hall:([29,29].all fun u=>!Tryz.prog.wantsStandIn u)=true:=by kernel_rfl
    exact(show Tryz.prog.wantsStandIn t=false by simpa using List.all_eq_true.1 hall t hm)⟩)
  (by kernel_rfl)
#print axioms proved
end Go.Proofs.YthjekgfoidmagaaGreatDoor.factEqual
