/- WashsaleOnceProof -/
import Derived.Test.YtiloklnjjfaagaaGreatDoorWBB
set_option maxHeartbeats 16000000
set_option maxRecDepth 100000
namespace Go.Proofs.YtiloklnjjfaagaaGreatDoor.washsaleOnce
open Go.RowKit Num Dt Go.ChangeShapes Go.WideShapes Go.ChangeAt
theorem proved:Rows.WashsaleOnceCardSaid :=
 Claim7.holds_tied_plain_at .later [] Rows.washsaleOnceCard.laidKinds true Rows.washsaleOnceCard.stood.harness true over (fun _ h=>by cases h) wfT (fun _ h=>by cases h) washsaleOnce_row_tie rfl ⟨rfl,rfl⟩ mainT rfl standT goesT
#print axioms proved
end Go.Proofs.YtiloklnjjfaagaaGreatDoor.washsaleOnce
