/- WashsalePeriodsProof -/
import Derived.Test.YtiloklnjjfaagaaGreatDoorWEB
set_option maxHeartbeats 16000000
set_option maxRecDepth 100000
namespace Go.Proofs.YtiloklnjjfaagaaGreatDoor.washsalePeriods
open Go.RowKit Num Dt Go.ChangeShapes Go.WideShapes Go.ChangeAt
theorem proved:Rows.WashsalePeriodsCardSaid :=
 Claim7.holds_tied_plain_at .later [] Rows.washsalePeriodsCard.laidKinds true Rows.washsalePeriodsCard.stood.harness true over (fun _ h=>by cases h) wfT (fun _ h=>by cases h) washsalePeriods_row_tie rfl ⟨rfl,rfl⟩ bZi rfl bZc bZk
#print axioms proved
end Go.Proofs.YtiloklnjjfaagaaGreatDoor.washsalePeriods
