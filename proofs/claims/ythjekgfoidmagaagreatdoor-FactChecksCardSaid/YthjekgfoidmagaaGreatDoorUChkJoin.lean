/- FactChecksJoin -/
import Derived.Test.YthjekgfoidmagaaGreatDoorCards
import Derived.Test.YthjekgfoidmagaaGreatDoorTie
import Derived.JoinedOf
set_option maxHeartbeats 16000000
set_option maxRecDepth 100000
namespace Go.Proofs.YthjekgfoidmagaaGreatDoor.factChecks
theorem joinA:(Rows.factChecksRow.inPlace==Tryz.checked.prog.inPlace 3)=true:=by kernel_rfl
theorem joinB:(Rows.factChecksRow.unfollowed==Tryz.checked.prog.unfollowed 3)=true:=by kernel_rfl
theorem joinC:(Rows.factChecksRow.recurses==Tryz.checked.prog.recurses 3)=true:=by kernel_rfl
theorem joinD:(Rows.factChecksRow.named==Tryz.checked.prog.varsNamed 3)=true:=by kernel_rfl
theorem joined:joinedFacts Tryz.checked.prog 3 Tryz.f3 Rows.factChecksSpec Rows.factChecksRow=true:=by
 unfold joinedFacts;rw[joinA,joinB,joinC,joinD];kernel_rfl
end Go.Proofs.YthjekgfoidmagaaGreatDoor.factChecks
