/- ElectionDefaultLaw -/
import Derived.Test.YtbcebibkpfklnaaGreatDoorJAwake32
import Derived.Test.YtbcebibkpfklnaaGreatDoorJElections
import Derived.Test.YtbcebibkpfklnaaGreatDoorJGreat32
set_option maxHeartbeats 16000000
set_option maxRecDepth 100000
namespace Go.Proofs.YtbcebibkpfklnaaGreatDoor
open Go Go.RowKit Num
theorem one_facts {w:World} {B:Nat} (x:FactV) (h:Box w B x.arr 30) (hb:x.f.Behind w x.pa x.oa):Facts w (some ⟨B,0,none⟩) [x]:=by
 refine ⟨srows_of_row (by decide) cells21 (.inr ⟨B,0,rfl,h.1,fun j v hv => ?_⟩),fun y hy => ?_⟩
 ·rw [Nat.zero_add,h.cell j,← hv,← Array.getElem?_toList]
  simp [FactV.cells]
 ·rw [List.mem_singleton] at hy
  subst hy
  exact hb
theorem choice_ok {fs:List FactP} {f:FactP} (h:choiceErr fs f=0):vcheck fs=0∧xcheck f=0:=by
 unfold choiceErr at h
 split at h
 ·cases h
 ·rename_i h'
  exact ⟨by rcases Decidable.em (vcheck fs=0) with h | h;exact h;exact absurd (.inl h) h',by rcases Decidable.em (xcheck f=0) with h | h;exact h;exact absurd (.inr h) h'⟩
theorem choice_val {fs:List FactP} {f:FactP} (h:choiceErr fs f=0):choiceV fs f=chosen fs f:=by unfold choiceV;rw [if_neg (by simpa using h)]
theorem choice_mk {fs:List FactP} {f:FactP} (h1:vcheck fs=0) (h2:xcheck f=0):choiceErr fs f=0:=by unfold choiceErr;rw [if_neg (by simp [h1,h2])]
end Go.Proofs.YtbcebibkpfklnaaGreatDoor
