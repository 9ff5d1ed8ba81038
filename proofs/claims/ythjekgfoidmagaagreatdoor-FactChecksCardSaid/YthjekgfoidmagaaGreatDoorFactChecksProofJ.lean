/- FactChecksProof -/
import Derived.Test.YthjekgfoidmagaaGreatDoorUChkBits
set_option maxHeartbeats 16000000
set_option maxRecDepth 100000
namespace Go.Proofs.YthjekgfoidmagaaGreatDoor.factChecks
open Go.RowKit Num Dt Go.ChangeShapes Go.WideShapes Go.ChangeAt
theorem proved:Rows.FactChecksCardSaid :=
 Claim7.holds_tied_plain_at .later [] Rows.factChecksCard.laidKinds true Rows.factChecksCard.stood.harness true over (fun _ h=>by cases h) wfT (fun _ h=>by cases h) factChecks_row_tie rfl ⟨rfl,rfl⟩ bZi rfl bZc bZk
#print axioms proved
end Go.Proofs.YthjekgfoidmagaaGreatDoor.factChecks
