/- WashsaleKeepsJoin -/
import Derived.Test.YtiloklnjjfaagaaGreatDoorCards
import Derived.Test.YtiloklnjjfaagaaGreatDoorTie
set_option maxHeartbeats 16000000
set_option maxRecDepth 100000
namespace Go.Proofs.YtiloklnjjfaagaaGreatDoor.washsaleKeeps
theorem dKi:(Rows.washsaleKeepsRow.inPlace==Tryz.checked.prog.inPlace 7)=true:=by kernel_rfl
theorem dKh:(Rows.washsaleKeepsRow.unfollowed==Tryz.checked.prog.unfollowed 7)=true:=by kernel_rfl
theorem bDo:(Rows.washsaleKeepsRow.recurses==Tryz.checked.prog.recurses 7)=true:=by kernel_rfl
theorem dKg:(Rows.washsaleKeepsRow.named==Tryz.checked.prog.varsNamed 7)=true:=by kernel_rfl
theorem joined:joinedFacts Tryz.checked.prog 7 Tryz.f7 Rows.washsaleKeepsSpec Rows.washsaleKeepsRow=true:=by
 unfold joinedFacts;rw[dKi,dKh,bDo,dKg]
 kernel_rfl
end Go.Proofs.YtiloklnjjfaagaaGreatDoor.washsaleKeeps
