/- The anchor of the statements of layer 23: the examples of the chapter. -/
import Derived.Test.YthlpfefckhdpiaaGreatDoorHold
namespace Go.Proofs.YthlpfefckhdpiaaGreatDoor.Dt
open Go.RowKit
theorem add_eval (d k y m dd : Int) (hv : Cal.Valid y m dd) (hn : Cal.num y m dd = d + 25567) (h3 : -4800 ≤ k) (h4 : k ≤ 4800) (h5 : 1900 ≤ (12 * y + m - 1 + k) / 12) (h6 : (12 * y + m - 1 + k) / 12 ≤ 2199) :
    Cal.add d k = (Cal.num ((12 * y + m - 1 + k) / 12) ((12 * y + m - 1 + k) % 12 + 1) (min dd (Cal.dim ((12 * y + m - 1 + k) / 12) ((12 * y + m - 1 + k) % 12 + 1))) - 25567, 0) := by
  have hc := Cal.civ_of hv hn
  have hr := Cal.num_range hv
  have e0 : Cal.months12 (d + 25567) k = 12 * y + m - 1 + k := by unfold Cal.months12; rw [hc]
  have e1 : Cal.shiftYear (d + 25567) k = (12 * y + m - 1 + k) / 12 := by unfold Cal.shiftYear; rw [e0]
  have e2 : Cal.shiftMonth (d + 25567) k = (12 * y + m - 1 + k) % 12 + 1 := by unfold Cal.shiftMonth; rw [e0]
  have e3 : Cal.shiftDay (d + 25567) k = min dd (Cal.dim ((12 * y + m - 1 + k) / 12) ((12 * y + m - 1 + k) % 12 + 1)) := by unfold Cal.shiftDay; rw [hc, e1, e2]
  rw [Cal.add_ok (by omega) (by omega) h3 h4 (by rw [e1]; exact h5) (by rw [e1]; exact h6)]
  unfold Cal.shift
  rw [e1, e2, e3]
theorem vmk {y m d : Int} (h : (decide (1900 ≤ y) && decide (y ≤ 2199) && decide (1 ≤ m) && decide (m ≤ 12) && decide (1 ≤ d) && decide (d ≤ Cal.dim y m)) = true) : Cal.Valid y m d := by
  simp only [Bool.and_eq_true, decide_eq_true_eq] at h
  obtain ⟨⟨⟨⟨⟨a, b⟩, c⟩, d⟩, e⟩, f⟩ := h
  exact ⟨a, b, c, d, e, f⟩
theorem add1 : Cal.add 19753 1 = (19782, 0) := by
  rw [add_eval 19753 1 2024 1 31 (vmk (by decide)) (by decide) (by decide) (by decide) (by decide) (by decide)]; decide
theorem add2 : Cal.add 19782 12 = (20147, 0) := by
  rw [add_eval 19782 12 2024 2 29 (vmk (by decide)) (by decide) (by decide) (by decide) (by decide) (by decide)]; decide
theorem day_2024_1_31 (w : World) : Calls Tryz.prog 37 #[.int .i64 2024, .int .i64 1, .int .i64 31] w fun e w' => e = .returned (.int .i64 19753) ∧ Below w.heap.size w w' := by
  have h := day_any 2024 1 31 w (vmk (by decide))
  rwa [show Cal.num 2024 1 31 - 25567 = 19753 by decide] at h
theorem day_2024_2_29 (w : World) : Calls Tryz.prog 37 #[.int .i64 2024, .int .i64 2, .int .i64 29] w fun e w' => e = .returned (.int .i64 19782) ∧ Below w.heap.size w w' := by
  have h := day_any 2024 2 29 w (vmk (by decide))
  rwa [show Cal.num 2024 2 29 - 25567 = 19782 by decide] at h
theorem day_2024_3_1 (w : World) : Calls Tryz.prog 37 #[.int .i64 2024, .int .i64 3, .int .i64 1] w fun e w' => e = .returned (.int .i64 19783) ∧ Below w.heap.size w w' := by
  have h := day_any 2024 3 1 w (vmk (by decide))
  rwa [show Cal.num 2024 3 1 - 25567 = 19783 by decide] at h
theorem day_2025_3_1 (w : World) : Calls Tryz.prog 37 #[.int .i64 2025, .int .i64 3, .int .i64 1] w fun e w' => e = .returned (.int .i64 20148) ∧ Below w.heap.size w w' := by
  have h := day_any 2025 3 1 w (vmk (by decide))
  rwa [show Cal.num 2025 3 1 - 25567 = 20148 by decide] at h
theorem turns_1 (w : World) : Calls Tryz.prog 36 #[.int .i64 19753, .int .i64 1] w fun e w' => e = .returned (.tuple #[.int .i64 19783, .int .i64 0]) ∧ Below w.heap.size w w' := by
  have h := Turns_any 19753 1 w
  rwa [show turnsRes 19753 1 = (19783, 0) by simp [turnsRes, add1]] at h
theorem turns_2 (w : World) : Calls Tryz.prog 36 #[.int .i64 19782, .int .i64 12] w fun e w' => e = .returned (.tuple #[.int .i64 20148, .int .i64 0]) ∧ Below w.heap.size w w' := by
  have h := Turns_any 19782 12 w
  rwa [show turnsRes 19782 12 = (20148, 0) by simp [turnsRes, add2]] at h
theorem long_1 (w : World) : Calls Tryz.prog 14 #[.int .i64 19753, .int .i64 19782, .int .i64 1] w fun e w' => e = .returned (.tuple #[.bool false, .int .i64 0]) ∧ Below w.heap.size w w' := by
  have h := Long_any 19753 19782 1 w
  rwa [show longRes 19753 19782 1 = (false, 0) by simp [longRes, isLong, add1]] at h
theorem long_2 (w : World) : Calls Tryz.prog 14 #[.int .i64 19753, .int .i64 19783, .int .i64 1] w fun e w' => e = .returned (.tuple #[.bool true, .int .i64 0]) ∧ Below w.heap.size w w' := by
  have h := Long_any 19753 19783 1 w
  rwa [show longRes 19753 19783 1 = (true, 0) by simp [longRes, isLong, add1]] at h
set_option maxHeartbeats 1000000 in
theorem awake_any (w : World) : Calls Tryz.prog 10 #[] w fun e w' => e = .returned (.bool true) ∧ Below w.heap.size w w' := by
  go_enter Tryz.func10, Tryz.ntmps10
  go_wp2_with fail
  refine (day_2024_1_31 _).mono ?_
  rintro e w0 ⟨rfl, hb0⟩
  go_wp2_with fail
  refine (turns_1 _).mono ?_
  rintro e w1 ⟨rfl, hb1⟩
  go_wp2_with fail
  refine (day_2024_2_29 _).mono ?_
  rintro e w2 ⟨rfl, hb2⟩
  go_wp2_with fail
  refine (turns_2 _).mono ?_
  rintro e w3 ⟨rfl, hb3⟩
  go_wp2_with fail
  refine (day_2024_1_31 _).mono ?_
  rintro e w4 ⟨rfl, hb4⟩
  go_wp2_with fail
  refine (day_2024_2_29 _).mono ?_
  rintro e w5 ⟨rfl, hb5⟩
  go_wp2_with fail
  refine (long_1 _).mono ?_
  rintro e w6 ⟨rfl, hb6⟩
  go_wp2_with fail
  refine (day_2024_1_31 _).mono ?_
  rintro e w7 ⟨rfl, hb7⟩
  go_wp2_with fail
  refine (day_2024_3_1 _).mono ?_
  rintro e w8 ⟨rfl, hb8⟩
  go_wp2_with fail
  refine (long_2 _).mono ?_
  rintro e w9 ⟨rfl, hb9⟩
  go_wp2_with fail
  refine (day_2024_3_1 _).mono ?_
  rintro e w10 ⟨rfl, hb10⟩
  go_wp2_with fail
  refine (day_2025_3_1 _).mono ?_
  rintro e w11 ⟨rfl, hb11⟩
  go_wp2
  go_ret
  exact ⟨rfl, (below_up (below_up (below_up (below_up (below_up (below_up (below_up (below_up (below_up (below_up (below_up hb0 hb1) hb2) hb3) hb4) hb5) hb6) hb7) hb8) hb9) hb10) hb11)⟩
end Go.Proofs.YthlpfefckhdpiaaGreatDoor.Dt
