/- the card's closed facts -/
import Derived.Test.YthjekgfoidmagaaGreatDoorUTextsOver
set_option maxHeartbeats 16000000
set_option maxRecDepth 100000
namespace Go.Proofs.YthjekgfoidmagaaGreatDoor.factTexts
open Go.RowKit Num Dt Go.ChangeShapes Go.WideShapes Go.ChangeAt
theorem wfT:Rows.factTextsRow.wfByText (OpenSpec.ofChange Rows.factTextsSpec)=true:=by kernel_rfl
theorem mainT:Tryz.pinned.checked.prog.mainIs=some (Rows.factTextsCard.stood.harness.1,Rows.factTextsCard.stood.harness.2.toList):=by kernel_rfl
theorem looksT:Rows.factTextsCard.stood.looks=Tryz.pinned.checked.prog.looks []:=by kernel_rfl
theorem standT:∀f fn,Tryz.pinned.checked.prog.funcNamed Rows.factTextsRow.func=some f->Tryz.pinned.checked.prog.funcs[f]?=some fn->true=Tryz.pinned.checked.prog.looks []/\∀(j:Nat) t,fn.params[j]?=some t->Tryz.pinned.checked.prog.wantsStandIn t=false:=fun f fn hf hfn=>by
   obtain rfl : f = 8 := Option.some.inj ((show Tryz.prog.funcNamed "tranche/tranchelaw13.FactTexts" = some 8 by kernel_rfl).symm.trans hf) |>.symm
   obtain rfl:fn=Tryz.f8:=(Option.some.inj (Tryz.func8.symm.trans hfn)).symm;exact⟨looksT,fun j t ht=>by
    rw[Tryz.params8] at ht;have hm:t∈[29,9]:=by simpa using Array.mem_of_getElem? ht
    have hall:([29,9].all fun u=>!Tryz.prog.wantsStandIn u)=true:=by kernel_rfl
    exact(show Tryz.prog.wantsStandIn t=false by simpa using List.all_eq_true.1 hall t hm)⟩
theorem goesT:false=Rows.factTextsRow.goesBy Tryz.pinned.checked.prog:=by kernel_rfl
end Go.Proofs.YthjekgfoidmagaaGreatDoor.factTexts
