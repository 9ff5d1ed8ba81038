/- Sorted2 Strs -/
import Derived.Test.YtbcebibkpfklnaaGreatDoorJHistP
import Derived.Test.YtbcebibkpfklnaaGreatDoorJShelf
set_option maxHeartbeats 16000000
set_option maxRecDepth 100000
namespace Go.Proofs.YtbcebibkpfklnaaGreatDoor
section
open Go Go.RowKit Num
def strsV (l:List (List UInt8)):List Value:=l.map (fun s => .string ⟨s.toArray⟩)
end
section
open Go Go.RowKit Num
def bas (ss:List (List UInt8)):List ByteArray:=ss.map fun s=>⟨s.toArray⟩
theorem bas_len (ss:List (List UInt8)):(bas ss).length=ss.length:=List.length_map ..
theorem ba_inj {a b:List UInt8} (h:(⟨a.toArray⟩:ByteArray)=⟨b.toArray⟩):a=b:=by
 injection h with h
 simpa using h
theorem bas_inj {a b:List (List UInt8)} (h:bas a=bas b):a=b:=by
 unfold bas at h
 exact List.map_inj_right (fun x y h=>ba_inj h) |>.1 h
theorem strsV_bas (ss:List (List UInt8)):strsV ss=(bas ss).map Value.string:=by unfold strsV bas;rw [List.map_map];rfl
theorem row_bas {w:World} {a:Option Addr} {ss:List (List UInt8)} (h:Row w a (strsV ss)):ss=[]∨∃ b off,a=some ⟨b,off,none⟩∧∀ j,j < (bas ss).length→w.cell? ⟨b,off+j,none⟩=some (.string ((bas ss).getD j ByteArray.empty)):=by
 rcases h with h | ⟨b,off,ha,_,hc⟩
 ·exact .inl (List.map_eq_nil_iff.1 h)
 ·refine .inr ⟨b,off,ha,fun j hj=>hc j _ ?_⟩
  rw [strsV_bas,List.getElem?_map,List.getD_eq_getElem?_getD,List.getElem?_eq_getElem hj]
  rfl
theorem equalStr_any (ss ts:List (List UInt8)) (a a2:Option Addr) (c c2:Nat) (w:World) (hn:ss.length≤1000000) (hm:ts.length≤1000000) (h:Row w a (strsV ss)) (h2:Row w a2 (strsV ts)) :
  Calls Tryz.prog 29 #[.slice a ss.length c,.slice a2 ts.length c2] w fun e w'=>e = .returned (.bool (decide (ss=ts)))∧Below w.heap.size w w':=by
 rcases row_bas h with rfl | ⟨b,off,rfl,hc⟩
 ·refine (Tryz.slices_Equal_string_empty a a2 c ts.length c2 w (by omega)).mono ?_
  rintro e w' ⟨rfl,rfl⟩
  refine ⟨?_,Below.refl _ _⟩
  congr 2
  exact decide_eq_decide.2 ⟨fun h=>(List.length_eq_zero_iff.1 h).symm,fun h=>by rw [← h];rfl⟩
 ·rcases row_bas h2 with rfl | ⟨b2,off2,rfl,hc2⟩
  ·by_cases h0:ss=[]
   ·subst h0
    refine (Tryz.slices_Equal_string_empty _ a2 c 0 c2 w (by omega)).mono ?_
    rintro e w' ⟨rfl,rfl⟩
    exact ⟨rfl,Below.refl _ _⟩
   ·have hl:ss.length ≠ 0:=fun h=>h0 (List.length_eq_zero_iff.1 h)
    refine (Tryz.slices_Equal_string_lens _ a2 ss.length c 0 c2 w hl).mono ?_
    rintro e w' ⟨rfl,rfl⟩
    exact ⟨by rw [decide_eq_false h0],Below.refl _ _⟩
  ·have h:=Tryz.slices_Equal_string b off ss.length c b2 off2 ts.length c2 (bas ss) (bas ts) w (by rw [bas_len];exact Nat.le_refl _) (by rw [bas_len];exact Nat.le_refl _) (by omega) (by omega) hc hc2
   refine h.mono ?_
   rintro e w' ⟨rfl,q,rfl⟩
   rw [List.take_of_length_le (by rw [bas_len];exact Nat.le_refl _),List.take_of_length_le (by rw [bas_len];exact Nat.le_refl _)]
   refine ⟨?_,below_drewN (Below.refl _ _) q⟩
   congr 2
   exact decide_eq_decide.2 ⟨bas_inj,fun h=>by rw [h]⟩
end
end Go.Proofs.YtbcebibkpfklnaaGreatDoor
