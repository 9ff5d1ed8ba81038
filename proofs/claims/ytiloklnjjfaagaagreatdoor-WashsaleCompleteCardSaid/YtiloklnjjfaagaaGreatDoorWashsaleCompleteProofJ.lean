/- WashsaleCompleteProof -/
import Derived.Test.YtiloklnjjfaagaaGreatDoorWCB
set_option maxHeartbeats 16000000
set_option maxRecDepth 100000
namespace Go.Proofs.YtiloklnjjfaagaaGreatDoor.washsaleComplete
open Go.RowKit Num Dt Go.ChangeShapes Go.WideShapes Go.ChangeAt
theorem proved:Rows.WashsaleCompleteCardSaid :=
 Claim7.holds_tied_plain_at .later [] Rows.washsaleCompleteCard.laidKinds true Rows.washsaleCompleteCard.stood.harness true over (fun _ h=>by cases h) wfT (fun _ h=>by cases h) washsaleComplete_row_tie rfl ⟨rfl,rfl⟩ mainT rfl standT goesT
#print axioms proved
end Go.Proofs.YtiloklnjjfaagaaGreatDoor.washsaleComplete
