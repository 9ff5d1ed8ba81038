/- WashsaleKeepsProof -/
import Derived.Test.YtiloklnjjfaagaaGreatDoorWHB
set_option maxHeartbeats 16000000
set_option maxRecDepth 100000
namespace Go.Proofs.YtiloklnjjfaagaaGreatDoor.washsaleKeeps
open Go.RowKit Num Dt Go.ChangeShapes Go.WideShapes Go.ChangeAt
theorem proved:Rows.WashsaleKeepsCardSaid :=
 Claim7.holds_tied_plain_at .later [] Rows.washsaleKeepsCard.laidKinds true Rows.washsaleKeepsCard.stood.harness true over (fun _ h=>by cases h) wfT (fun _ h=>by cases h) washsaleKeeps_row_tie rfl ⟨rfl,rfl⟩ bZi rfl bZc bZk
#print axioms proved
end Go.Proofs.YtiloklnjjfaagaaGreatDoor.washsaleKeeps
