/- FactChecksBits -/
import Derived.Test.YthjekgfoidmagaaGreatDoorUChkOver
set_option maxHeartbeats 16000000
set_option maxRecDepth 100000
namespace Go.Proofs.YthjekgfoidmagaaGreatDoor.factChecks
open Go.RowKit Num Dt Go.ChangeShapes Go.WideShapes Go.ChangeAt
theorem wfT:Rows.factChecksRow.wfByText (OpenSpec.ofChange Rows.factChecksSpec)=true:=by kernel_rfl
theorem bZi:Tryz.pinned.checked.prog.mainIs=some (Rows.factChecksCard.stood.harness.1,Rows.factChecksCard.stood.harness.2.toList):=by kernel_rfl
theorem bZd:Rows.factChecksCard.stood.looks=Tryz.pinned.checked.prog.looks []:=by kernel_rfl
theorem bZc:∀f fn,Tryz.pinned.checked.prog.funcNamed Rows.factChecksRow.func=some f->Tryz.pinned.checked.prog.funcs[f]?=some fn->true=Tryz.pinned.checked.prog.looks []/\∀(j:Nat) t,fn.params[j]?=some t->Tryz.pinned.checked.prog.wantsStandIn t=false :=
 fun f fn hf hfn=>by
   obtain rfl : f = 3 := Option.some.inj ((show Tryz.prog.funcNamed "tranche/tranchelaw13.FactChecks" = some 3 by kernel_rfl).symm.trans hf) |>.symm
   obtain rfl:fn=Tryz.f3:=(Option.some.inj (Tryz.func3.symm.trans hfn)).symm;exact⟨bZd,fun j t ht=>by
    rw[Tryz.params3] at ht;have hm:t∈[29,29]:=by simpa using Array.mem_of_getElem? ht
    have hall:([29,29].all fun u=>!Tryz.prog.wantsStandIn u)=true:=by kernel_rfl
    exact(show Tryz.prog.wantsStandIn t=false by simpa using List.all_eq_true.1 hall t hm)⟩
theorem bZk:false=Rows.factChecksRow.goesBy Tryz.pinned.checked.prog:=by kernel_rfl
end Go.Proofs.YthjekgfoidmagaaGreatDoor.factChecks
