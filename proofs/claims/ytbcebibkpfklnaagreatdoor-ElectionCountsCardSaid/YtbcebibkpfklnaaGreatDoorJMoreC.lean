/- Late -/
import Derived.Test.YtbcebibkpfklnaaGreatDoorJMem
import Derived.Test.YtbcebibkpfklnaaGreatDoorJWhereA
import Derived.Test.YtbcebibkpfklnaaGreatDoorJViewA
import Derived.Maps.AppendAt
set_option maxHeartbeats 16000000
set_option maxRecDepth 100000
namespace Go.Proofs.YtbcebibkpfklnaaGreatDoor
open Go Go.RowKit Go.Shelf Num
attribute [local go_sem] Oper.semAt_some
theorem aGm(xs:List aF)(a:Option Addr)(c:Nat)(w:World)(hE:iE w)(hv:gT w a c xs)(hvc:dF (xs.map aF.f)≠0):
  Calls Tryz.prog 21 #[.slice a xs.length c] w fun e w'=>e=.returned (.tuple #[.slice none 0 0,.int .i64 1])∧Below w.heap.size w w':=by
 have HVC:Hid (∀W,Below w.heap.size w W→Calls Tryz.prog 38 #[.slice a xs.length c] W fun e w'=>e=.returned (.int .i64 (dF (xs.map aF.f)))∧Below W.heap.size W w'):=fun W hbw=>lC xs a c W (hE.below hbw) hv.len (hv.facts.below hbw) hv.ok
 have cS:=(aP.new0 w #[.slice a xs.length c] 22).cell 0;have HB0:=Hd (aB w (.cells #[.slice a xs.length c] 22));clear hE hv;generalize dF (xs.map aF.f)=ve at *;have hv':(ve==0)=false:=by simpa using hvc
 go_enter Tryz.func21,Tryz.ntmps21;go_wp2_with fail;refine(HVC.out _ HB0.out).mono ?_;rintro e w1 ⟨rfl,hb⟩;have HB1:=Hd (aA HB0.out hb);clear hb;go_wp2_with fail;go_ret2;exact⟨rfl,HB1.out⟩
end Go.Proofs.YtbcebibkpfklnaaGreatDoor
