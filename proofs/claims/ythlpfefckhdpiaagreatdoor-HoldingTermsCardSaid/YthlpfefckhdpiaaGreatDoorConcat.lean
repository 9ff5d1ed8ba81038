/- slices.Grow of nil and slices.Concat of two lists of gains. -/
import Derived.Test.YthlpfefckhdpiaaGreatDoorSplit
import Derived.Lib.AppendZeros
namespace Go.Proofs.YthlpfefckhdpiaaGreatDoor
open Go.RowKit Num Dt
attribute [local go_sem] str_append str_extract str_size setCell_drewN

set_option maxHeartbeats 2000000 in
set_option maxRecDepth 100000 in
theorem growGain_any (n : Nat) (w : World) (hn : n ≤ 1000) :
    Calls Tryz.prog 67 #[.slice none 0 0, .int .i64 (n : Int)] w fun e w' => (∃ v, e = .returned v ∧ w'.ownsRow w.heap.size 51 10 v 0 []) ∧ Below w.heap.size w w' := by
  obtain ⟨i0, hi, hz0, hz1, hz2⟩ := info_parts infoGain
  by_cases h0 : n = 0
  · subst h0
    go_enter Tryz.func67, Tryz.ntmps67
    go_wp2
    go_ret
    exact ⟨⟨_, rfl, World.ownsRow_nil _ _ _ _⟩, Below.refl _ _⟩
  · have hpos : (0 : Int) < n := by omega
    have hr := Lib.run_append_nil_zeros (P := Tryz.prog) w 44 3 44 51 i0 zGain .i64 .i64 Tryz.underlying44 Tryz.underlying3 hi hz0 n (by omega) (by omega) (by omega) (by rw [hz2]; omega)
    obtain ⟨Z, hZ⟩ : ∃ Z, Z = Builtin.zeroCells zGain.cells n ++ Builtin.zeroCells zGain.cells (grownCap w n 0 51 - n) := ⟨_, rfl⟩
    rw [← hZ] at hr
    have hge := grownCap_ge w n 0 51
    have hle := grownCap_le_maxLen w n 0 51 (by unfold maxLen; omega)
    have hsz : Z.size = grownCap w n 0 51 * 10 := by
      rw [hZ, Array.size_append, size_zeroCells, size_zeroCells, show zGain.cells.size = 10 from rfl]
      omega
    have HO := Lib.hid (World.ownsRow_made (base := w.heap.size) (e := 51) (size := 10) w.drew Z (grownCap w n 0 51) (Nat.le_refl _) hle hsz)
    have HR := Lib.hid hr
    clear hr hZ hge hle hsz
    generalize grownCap w n 0 51 = C at *
    go_enter Tryz.func67, Tryz.ntmps67
    go_wp2_with (at_builtin; refine Lib.wpList_append_run _ rfl _ _ _ _ rfl _ _ rfl rfl _ _ HR.out ?_)
    go_ret
    exact ⟨⟨_, rfl, HO.out⟩, below_drewN (below_alloc w _) 1⟩
end Go.Proofs.YthlpfefckhdpiaaGreatDoor
