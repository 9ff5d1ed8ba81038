/- WashsalePeriodsJoin -/
import Derived.Test.YtiloklnjjfaagaaGreatDoorCards
import Derived.Test.YtiloklnjjfaagaaGreatDoorTie
set_option maxHeartbeats 16000000
set_option maxRecDepth 100000
namespace Go.Proofs.YtiloklnjjfaagaaGreatDoor.washsalePeriods
theorem dKn:(Rows.washsalePeriodsRow.inPlace==Tryz.checked.prog.inPlace 5)=true:=by kernel_rfl
theorem dKm:(Rows.washsalePeriodsRow.unfollowed==Tryz.checked.prog.unfollowed 5)=true:=by kernel_rfl
theorem bDo:(Rows.washsalePeriodsRow.recurses==Tryz.checked.prog.recurses 5)=true:=by kernel_rfl
theorem dKl:(Rows.washsalePeriodsRow.named==Tryz.checked.prog.varsNamed 5)=true:=by kernel_rfl
theorem joined:joinedFacts Tryz.checked.prog 5 Tryz.f5 Rows.washsalePeriodsSpec Rows.washsalePeriodsRow=true:=by
 unfold joinedFacts;rw[dKn,dKm,bDo,dKl]
 kernel_rfl
end Go.Proofs.YtiloklnjjfaagaaGreatDoor.washsalePeriods
