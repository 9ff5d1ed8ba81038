/- WashsaleFindsJoin -/
import Derived.Test.YtiloklnjjfaagaaGreatDoorCards
import Derived.Test.YtiloklnjjfaagaaGreatDoorTie
set_option maxHeartbeats 16000000
set_option maxRecDepth 100000
namespace Go.Proofs.YtiloklnjjfaagaaGreatDoor.washsaleFinds
theorem dKm:(Rows.washsaleFindsRow.inPlace==Tryz.checked.prog.inPlace 8)=true:=by kernel_rfl
theorem dKl:(Rows.washsaleFindsRow.unfollowed==Tryz.checked.prog.unfollowed 8)=true:=by kernel_rfl
theorem bDo:(Rows.washsaleFindsRow.recurses==Tryz.checked.prog.recurses 8)=true:=by kernel_rfl
theorem dKk:(Rows.washsaleFindsRow.named==Tryz.checked.prog.varsNamed 8)=true:=by kernel_rfl
theorem joined:joinedFacts Tryz.checked.prog 8 Tryz.f8 Rows.washsaleFindsSpec Rows.washsaleFindsRow=true:=by
 unfold joinedFacts;rw[dKm,dKl,bDo,dKk]
 kernel_rfl
end Go.Proofs.YtiloklnjjfaagaaGreatDoor.washsaleFinds
