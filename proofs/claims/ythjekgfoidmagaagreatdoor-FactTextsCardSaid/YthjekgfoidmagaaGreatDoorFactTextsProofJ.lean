/- FactTextsProof -/
import Derived.Test.YthjekgfoidmagaaGreatDoorUTextsBits
set_option maxHeartbeats 16000000
set_option maxRecDepth 100000
namespace Go.Proofs.YthjekgfoidmagaaGreatDoor.factTexts
open Go.RowKit Num Dt Go.ChangeShapes Go.WideShapes Go.ChangeAt
theorem proved:Rows.FactTextsCardSaid :=
 Claim7.holds_tied_plain_at .later [] Rows.factTextsCard.laidKinds true Rows.factTextsCard.stood.harness true over (fun _ h=>by cases h) wfT (fun _ h=>by cases h) factTexts_row_tie rfl ⟨rfl,rfl⟩ mainT rfl standT goesT
#print axioms proved
end Go.Proofs.YthjekgfoidmagaaGreatDoor.factTexts
