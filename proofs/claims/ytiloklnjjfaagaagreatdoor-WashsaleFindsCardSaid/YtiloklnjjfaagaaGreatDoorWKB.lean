/- WashsaleFindsBits -/
import Derived.Test.YtiloklnjjfaagaaGreatDoorWKO
set_option maxHeartbeats 16000000
set_option maxRecDepth 100000
namespace Go.Proofs.YtiloklnjjfaagaaGreatDoor.washsaleFinds
open Go.RowKit Num Dt Go.ChangeShapes Go.WideShapes Go.ChangeAt
theorem wfT:Rows.washsaleFindsRow.wfByText (OpenSpec.ofChange Rows.washsaleFindsSpec)=true:=by kernel_rfl
theorem bZi:Tryz.pinned.checked.prog.mainIs=some (Rows.washsaleFindsCard.stood.harness.1,Rows.washsaleFindsCard.stood.harness.2.toList):=by kernel_rfl
theorem bZd:Rows.washsaleFindsCard.stood.looks=Tryz.pinned.checked.prog.looks []:=by kernel_rfl
theorem bZc:∀f fn,Tryz.pinned.checked.prog.funcNamed Rows.washsaleFindsRow.func=some f->Tryz.pinned.checked.prog.funcs[f]?=some fn->true=Tryz.pinned.checked.prog.looks []/\∀(j:Nat) t,fn.params[j]?=some t->Tryz.pinned.checked.prog.wantsStandIn t=false :=
 fun f fn hf hfn=>by
   obtain rfl : f = 8 := Option.some.inj ((show Tryz.prog.funcNamed "tranche/tranchelaw25.WashsaleFinds" = some 8 by kernel_rfl).symm.trans hf) |>.symm
   obtain rfl:fn=Tryz.f8:=(Option.some.inj (Tryz.func8.symm.trans hfn)).symm;exact⟨bZd,fun j t ht=>by
    rw[Tryz.params8] at ht;have hm:t∈[22,23,9,24,3]:=by simpa using Array.mem_of_getElem? ht
    have hall:([22,23,9,24,3].all fun u=>!Tryz.prog.wantsStandIn u)=true:=by kernel_rfl
    exact(show Tryz.prog.wantsStandIn t=false by simpa using List.all_eq_true.1 hall t hm)⟩
theorem bZk:false=Rows.washsaleFindsRow.goesBy Tryz.pinned.checked.prog:=by kernel_rfl
end Go.Proofs.YtiloklnjjfaagaaGreatDoor.washsaleFinds
