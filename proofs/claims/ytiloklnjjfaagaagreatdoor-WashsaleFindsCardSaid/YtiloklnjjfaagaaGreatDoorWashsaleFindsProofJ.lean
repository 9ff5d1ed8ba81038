/- WashsaleFindsProof -/
import Derived.Test.YtiloklnjjfaagaaGreatDoorWKB
set_option maxHeartbeats 16000000
set_option maxRecDepth 100000
namespace Go.Proofs.YtiloklnjjfaagaaGreatDoor.washsaleFinds
open Go.RowKit Num Dt Go.ChangeShapes Go.WideShapes Go.ChangeAt
theorem proved:Rows.WashsaleFindsCardSaid :=
 Claim7.holds_tied_plain_at .later [] Rows.washsaleFindsCard.laidKinds true Rows.washsaleFindsCard.stood.harness true over (fun _ h=>by cases h) wfT (fun _ h=>by cases h) washsaleFinds_row_tie rfl ⟨rfl,rfl⟩ bZi rfl bZc bZk
#print axioms proved
end Go.Proofs.YtiloklnjjfaagaaGreatDoor.washsaleFinds
