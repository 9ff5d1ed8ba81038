/- Elections -/
import Derived.Test.YtbcebibkpfklnaaGreatDoorJLate
import Derived.Test.YtbcebibkpfklnaaGreatDoorJRowF
set_option maxHeartbeats 16000000
set_option maxRecDepth 100000
namespace Go.Proofs.YtbcebibkpfklnaaGreatDoor
open Go Go.RowKit Go.Shelf Num
theorem run_oneV (fc:Array Value) (hs:fc.size=21) (w:World):(Instr.buildSlice 22 1 #[(0,.agg fc)]).run Tryz.prog w = .ok (.slice (some ⟨w.heap.size,0,none⟩) 1 1) (w.alloc (.cells fc 30)):=by
 obtain ⟨l⟩:=fc
 match l,hs with
 | [a0,a1,a2,a3,a4,a5,a6,a7,a8,a9,a10,a11,a12,a13,a14,a15,a16,a17,a18,a19,a20],_=>simp [go_sem]
attribute [local go_sem] Oper.semAt_some
end Go.Proofs.YtbcebibkpfklnaaGreatDoor
