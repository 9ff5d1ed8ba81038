/- WashsaleCompleteJoin -/
import Derived.Test.YtiloklnjjfaagaaGreatDoorCards
import Derived.Test.YtiloklnjjfaagaaGreatDoorTie
set_option maxHeartbeats 16000000
set_option maxRecDepth 100000
namespace Go.Proofs.YtiloklnjjfaagaaGreatDoor.washsaleComplete
theorem joinA:(Rows.washsaleCompleteRow.inPlace==Tryz.checked.prog.inPlace 6)=true:=by kernel_rfl
theorem joinB:(Rows.washsaleCompleteRow.unfollowed==Tryz.checked.prog.unfollowed 6)=true:=by kernel_rfl
theorem joinC:(Rows.washsaleCompleteRow.recurses==Tryz.checked.prog.recurses 6)=true:=by kernel_rfl
theorem joinD:(Rows.washsaleCompleteRow.named==Tryz.checked.prog.varsNamed 6)=true:=by kernel_rfl
theorem joined:joinedFacts Tryz.checked.prog 6 Tryz.f6 Rows.washsaleCompleteSpec Rows.washsaleCompleteRow=true:=by
 unfold joinedFacts;rw[joinA,joinB,joinC,joinD]
 kernel_rfl
end Go.Proofs.YtiloklnjjfaagaaGreatDoor.washsaleComplete
