/- WashsaleOnceJoin -/
import Derived.Test.YtiloklnjjfaagaaGreatDoorCards
import Derived.Test.YtiloklnjjfaagaaGreatDoorTie
set_option maxHeartbeats 16000000
set_option maxRecDepth 100000
namespace Go.Proofs.YtiloklnjjfaagaaGreatDoor.washsaleOnce
theorem joinA:(Rows.washsaleOnceRow.inPlace==Tryz.checked.prog.inPlace 4)=true:=by kernel_rfl
theorem joinB:(Rows.washsaleOnceRow.unfollowed==Tryz.checked.prog.unfollowed 4)=true:=by kernel_rfl
theorem joinC:(Rows.washsaleOnceRow.recurses==Tryz.checked.prog.recurses 4)=true:=by kernel_rfl
theorem joinD:(Rows.washsaleOnceRow.named==Tryz.checked.prog.varsNamed 4)=true:=by kernel_rfl
theorem joined:joinedFacts Tryz.checked.prog 4 Tryz.f4 Rows.washsaleOnceSpec Rows.washsaleOnceRow=true:=by
 unfold joinedFacts;rw[joinA,joinB,joinC,joinD]
 kernel_rfl
end Go.Proofs.YtiloklnjjfaagaaGreatDoor.washsaleOnce
