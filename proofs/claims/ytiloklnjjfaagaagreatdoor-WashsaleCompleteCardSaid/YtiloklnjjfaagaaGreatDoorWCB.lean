/- WashsaleCompleteBits -/
import Derived.Test.YtiloklnjjfaagaaGreatDoorWCO
set_option maxHeartbeats 16000000
set_option maxRecDepth 100000
namespace Go.Proofs.YtiloklnjjfaagaaGreatDoor.washsaleComplete
open Go.RowKit Num Dt Go.ChangeShapes Go.WideShapes Go.ChangeAt
theorem wfT:Rows.washsaleCompleteRow.wfByText (OpenSpec.ofChange Rows.washsaleCompleteSpec)=true:=by kernel_rfl
theorem mainT:Tryz.pinned.checked.prog.mainIs=some (Rows.washsaleCompleteCard.stood.harness.1,Rows.washsaleCompleteCard.stood.harness.2.toList):=by kernel_rfl
theorem looksT:Rows.washsaleCompleteCard.stood.looks=Tryz.pinned.checked.prog.looks []:=by kernel_rfl
theorem standT:∀f fn,Tryz.pinned.checked.prog.funcNamed Rows.washsaleCompleteRow.func=some f->Tryz.pinned.checked.prog.funcs[f]?=some fn->true=Tryz.pinned.checked.prog.looks []/\∀(j:Nat) t,fn.params[j]?=some t->Tryz.pinned.checked.prog.wantsStandIn t=false :=
 fun f fn hf hfn=>by
   obtain rfl : f = 6 := Option.some.inj ((show Tryz.prog.funcNamed "tranche/tranchelaw25.WashsaleComplete" = some 6 by kernel_rfl).symm.trans hf) |>.symm
   obtain rfl:fn=Tryz.f6:=(Option.some.inj (Tryz.func6.symm.trans hfn)).symm;exact⟨looksT,fun j t ht=>by
    rw[Tryz.params6] at ht;have hm:t∈[22,23,9,24,9,3]:=by simpa using Array.mem_of_getElem? ht
    have hall:([22,23,9,24,9,3].all fun u=>!Tryz.prog.wantsStandIn u)=true:=by kernel_rfl
    exact(show Tryz.prog.wantsStandIn t=false by simpa using List.all_eq_true.1 hall t hm)⟩
theorem goesT:false=Rows.washsaleCompleteRow.goesBy Tryz.pinned.checked.prog:=by kernel_rfl
end Go.Proofs.YtiloklnjjfaagaaGreatDoor.washsaleComplete
