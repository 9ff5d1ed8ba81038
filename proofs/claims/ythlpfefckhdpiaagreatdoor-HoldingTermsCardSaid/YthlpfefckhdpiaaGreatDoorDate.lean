/- The walks of the functions of package date: what they return, in the words of XCal. -/
import Derived.Test.YthlpfefckhdpiaaGreatDoorProg
import Derived.Test.YthlpfefckhdpiaaGreatDoorMem
import Derived.Test.YthlpfefckhdpiaaGreatDoorCal
import Derived.WalkKit
import Derived.WalkLawsBesides
import Derived.Outline
import Derived.Lib.Hide
namespace Go.Proofs.YthlpfefckhdpiaaGreatDoor.Dt
open Go.RowKit

theorem leap_any (y : Int) (w : World) (h0 : 0 ≤ y) (h1 : y ≤ 100000) :
    Calls Tryz.prog 146 #[.int .i64 y] w fun e w' => e = .returned (.bool (Cal.leap y)) ∧ w = w' := by
  go_enter Tryz.func146, Tryz.ntmps146
  go_wp2
  all_goals
    go_ret
    exact ⟨ret_bool (by simp [Cal.leap, *]), rfl⟩

theorem length_2 (y : Int) (w : World) (h0 : 0 ≤ y) (h1 : y ≤ 100000) :
    Calls Tryz.prog 114 #[.int .i64 y, .int .i64 2] w fun e w' => e = .returned (.int .i64 (Cal.dim y 2)) ∧ Below w.heap.size w w' := by
  go_enter Tryz.func114, Tryz.ntmps114
  go_wp2_with (go_at_call 146; refine (leap_any _ _ (by omega) (by omega)).mono ?_; rintro e w' ⟨rfl, rfl⟩)
  all_goals
    go_ret
    exact ⟨ret_int (by simp [Cal.dim, Cal.lp, *]), (Below.refl _ _).alloc (Nat.le_refl _) _⟩
theorem length_1 (y : Int) (w : World) :
    Calls Tryz.prog 114 #[.int .i64 y, .int .i64 1] w fun e w' => e = .returned (.int .i64 (Cal.dim y 1)) ∧ Below w.heap.size w w' := by
  go_enter Tryz.func114, Tryz.ntmps114
  go_wp2
  go_ret
  exact ⟨ret_int (by simp [Cal.dim]), (Below.refl _ _).alloc (Nat.le_refl _) _⟩
theorem length_3 (y : Int) (w : World) :
    Calls Tryz.prog 114 #[.int .i64 y, .int .i64 3] w fun e w' => e = .returned (.int .i64 (Cal.dim y 3)) ∧ Below w.heap.size w w' := by
  go_enter Tryz.func114, Tryz.ntmps114
  go_wp2
  go_ret
  exact ⟨ret_int (by simp [Cal.dim]), (Below.refl _ _).alloc (Nat.le_refl _) _⟩
theorem length_4 (y : Int) (w : World) :
    Calls Tryz.prog 114 #[.int .i64 y, .int .i64 4] w fun e w' => e = .returned (.int .i64 (Cal.dim y 4)) ∧ Below w.heap.size w w' := by
  go_enter Tryz.func114, Tryz.ntmps114
  go_wp2
  go_ret
  exact ⟨ret_int (by simp [Cal.dim]), (Below.refl _ _).alloc (Nat.le_refl _) _⟩
theorem length_5 (y : Int) (w : World) :
    Calls Tryz.prog 114 #[.int .i64 y, .int .i64 5] w fun e w' => e = .returned (.int .i64 (Cal.dim y 5)) ∧ Below w.heap.size w w' := by
  go_enter Tryz.func114, Tryz.ntmps114
  go_wp2
  go_ret
  exact ⟨ret_int (by simp [Cal.dim]), (Below.refl _ _).alloc (Nat.le_refl _) _⟩
theorem length_6 (y : Int) (w : World) :
    Calls Tryz.prog 114 #[.int .i64 y, .int .i64 6] w fun e w' => e = .returned (.int .i64 (Cal.dim y 6)) ∧ Below w.heap.size w w' := by
  go_enter Tryz.func114, Tryz.ntmps114
  go_wp2
  go_ret
  exact ⟨ret_int (by simp [Cal.dim]), (Below.refl _ _).alloc (Nat.le_refl _) _⟩
theorem length_7 (y : Int) (w : World) :
    Calls Tryz.prog 114 #[.int .i64 y, .int .i64 7] w fun e w' => e = .returned (.int .i64 (Cal.dim y 7)) ∧ Below w.heap.size w w' := by
  go_enter Tryz.func114, Tryz.ntmps114
  go_wp2
  go_ret
  exact ⟨ret_int (by simp [Cal.dim]), (Below.refl _ _).alloc (Nat.le_refl _) _⟩
theorem length_8 (y : Int) (w : World) :
    Calls Tryz.prog 114 #[.int .i64 y, .int .i64 8] w fun e w' => e = .returned (.int .i64 (Cal.dim y 8)) ∧ Below w.heap.size w w' := by
  go_enter Tryz.func114, Tryz.ntmps114
  go_wp2
  go_ret
  exact ⟨ret_int (by simp [Cal.dim]), (Below.refl _ _).alloc (Nat.le_refl _) _⟩
theorem length_9 (y : Int) (w : World) :
    Calls Tryz.prog 114 #[.int .i64 y, .int .i64 9] w fun e w' => e = .returned (.int .i64 (Cal.dim y 9)) ∧ Below w.heap.size w w' := by
  go_enter Tryz.func114, Tryz.ntmps114
  go_wp2
  go_ret
  exact ⟨ret_int (by simp [Cal.dim]), (Below.refl _ _).alloc (Nat.le_refl _) _⟩
theorem length_10 (y : Int) (w : World) :
    Calls Tryz.prog 114 #[.int .i64 y, .int .i64 10] w fun e w' => e = .returned (.int .i64 (Cal.dim y 10)) ∧ Below w.heap.size w w' := by
  go_enter Tryz.func114, Tryz.ntmps114
  go_wp2
  go_ret
  exact ⟨ret_int (by simp [Cal.dim]), (Below.refl _ _).alloc (Nat.le_refl _) _⟩
theorem length_11 (y : Int) (w : World) :
    Calls Tryz.prog 114 #[.int .i64 y, .int .i64 11] w fun e w' => e = .returned (.int .i64 (Cal.dim y 11)) ∧ Below w.heap.size w w' := by
  go_enter Tryz.func114, Tryz.ntmps114
  go_wp2
  go_ret
  exact ⟨ret_int (by simp [Cal.dim]), (Below.refl _ _).alloc (Nat.le_refl _) _⟩
theorem length_12 (y : Int) (w : World) :
    Calls Tryz.prog 114 #[.int .i64 y, .int .i64 12] w fun e w' => e = .returned (.int .i64 (Cal.dim y 12)) ∧ Below w.heap.size w w' := by
  go_enter Tryz.func114, Tryz.ntmps114
  go_wp2
  go_ret
  exact ⟨ret_int (by simp [Cal.dim]), (Below.refl _ _).alloc (Nat.le_refl _) _⟩
theorem length_any (y m : Int) (w : World) (h0 : 0 ≤ y) (h1 : y ≤ 100000) (h2 : 1 ≤ m) (h3 : m ≤ 12) :
    Calls Tryz.prog 114 #[.int .i64 y, .int .i64 m] w fun e w' => e = .returned (.int .i64 (Cal.dim y m)) ∧ Below w.heap.size w w' :=
  Cal.months (P := fun m => Calls Tryz.prog 114 #[.int .i64 y, .int .i64 m] w fun e w' => e = .returned (.int .i64 (Cal.dim y m)) ∧ Below w.heap.size w w') m h2 h3
    (length_1 y w) (length_2 y w h0 h1) (length_3 y w) (length_4 y w) (length_5 y w) (length_6 y w) (length_7 y w) (length_8 y w) (length_9 y w) (length_10 y w) (length_11 y w) (length_12 y w)

theorem begin_any (y : Int) (w : World) (h0 : 1 ≤ y) (h1 : y ≤ 100000) :
    Calls Tryz.prog 115 #[.int .i64 y] w fun e w' => e = .returned (.int .i64 (Cal.dby y)) ∧ w = w' := by
  go_enter Tryz.func115, Tryz.ntmps115
  go_wp2
  go_ret
  exact ⟨ret_int (by unfold Cal.dby; omega), rfl⟩

theorem valid_any (d : Int) (w : World) :
    Calls Tryz.prog 145 #[.int .i64 d] w fun e w' => e = .returned (.bool (decide (-25567 ≤ d ∧ d ≤ 84005))) ∧ w = w' := by
  by_cases h0 : -25567 ≤ d <;> by_cases h1 : d ≤ 84005
  all_goals
    go_enter Tryz.func145, Tryz.ntmps145
    go_wp2
    go_ret
    exact ⟨ret_bool (by simp; omega), rfl⟩

/-- Of, where there is no such date -/
theorem of_no (y m d : Int) (w : World) (hb : -9223372036854775808 ≤ y) (hy : y ≤ 100000) (h : ¬ Cal.Valid y m d) :
    Calls Tryz.prog 75 #[.int .i64 y, .int .i64 m, .int .i64 d] w fun e w' => e = .returned (.tuple #[.int .i64 0, .int .i64 13]) ∧ Below w.heap.size w w' := by
  unfold Cal.Valid at h
  by_cases a1 : y < 1900
  · go_enter Tryz.func75, Tryz.ntmps75
    go_wp2
    go_ret2
    exact ⟨rfl, Below.refl _ _⟩
  by_cases a2 : 2199 < y
  · go_enter Tryz.func75, Tryz.ntmps75
    go_wp2
    go_ret2
    exact ⟨rfl, Below.refl _ _⟩
  by_cases a3 : m < 1
  · go_enter Tryz.func75, Tryz.ntmps75
    go_wp2
    go_ret2
    exact ⟨rfl, Below.refl _ _⟩
  by_cases a4 : 12 < m
  · go_enter Tryz.func75, Tryz.ntmps75
    go_wp2
    go_ret2
    exact ⟨rfl, Below.refl _ _⟩
  by_cases a5 : d < 1
  · go_enter Tryz.func75, Tryz.ntmps75
    go_wp2
    go_ret2
    exact ⟨rfl, Below.refl _ _⟩
  have a6 : Cal.dim y m < d := by omega
  clear h
  go_enter Tryz.func75, Tryz.ntmps75
  go_wp2_with (go_at_call 114; refine (length_any _ _ _ (by omega) (by omega) (by omega) (by omega)).mono ?_; rintro e w' ⟨rfl, hb1⟩)
  go_ret2
  exact ⟨rfl, hb1⟩

theorem of_yes (y m d : Int) (w : World) (h : Cal.Valid y m d) :
    Calls Tryz.prog 75 #[.int .i64 y, .int .i64 m, .int .i64 d] w fun e w' => e = .returned (.tuple #[.int .i64 (Cal.num y m d - 25567), .int .i64 0]) ∧ Below w.heap.size w w' := by
  obtain ⟨h1, h2, h3, h4, h5, h6⟩ := h
  have hd := Cal.dim_bd y m
  have hb := Cal.dby_bd y h1 (by omega)
  go_enter Tryz.func75, Tryz.ntmps75
  go_wp2_with (first | (go_at_call 114; refine (length_any _ _ _ (by omega) (by omega) (by omega) (by omega)).mono ?_; rintro e w1 ⟨rfl, hb1⟩) | (go_at_call 115; refine (begin_any _ _ (by omega) (by omega)).mono ?_; rintro e w' ⟨rfl, rfl⟩))
  go_loopw [8, 9] (fun n i wr => ∃ k : Int, 1 ≤ k ∧ k ≤ m ∧ i = .int .i64 k ∧ n = .int .i64 (Cal.dby y + Cal.cum y k + d - 1) ∧ Below w.heap.size w wr) (fun _ i _ => (12 - intOf i).toNat)
  case atStart => exact ⟨1, by omega, by omega, rfl, by rw [Cal.cum_1, Int.add_zero], hb1⟩
  case round =>
    obtain ⟨k, hk1, hk2, rfl, rfl, hbr⟩ := hrel
    have cb := Cal.cum_bd y k hk1 (by omega)
    have db := Cal.dim_bd y k
    by_cases hlt : k < m
    · have cs := Lib.hid (Cal.cum_succ y k hk1 (by omega))
      go_wp2_with (go_at_call 114; refine (length_any _ _ _ (by omega) (by omega) (by omega) (by omega)).mono ?_; rintro e w2 ⟨rfl, hb2⟩)
      go_roundw
      case rel => exact ⟨k + 1, by omega, by omega, rfl, by rw [cs.out]; go_num, below_up hbr hb2⟩
      case measure => simp [intOf]; omega
    · have hkm : k = m := by omega
      subst hkm
      go_wp2
      go_ret2
      exact ⟨by rw [show Cal.num y k d = Cal.dby y + Cal.cum y k + d - 1 from rfl]; simp; omega, hbr⟩

theorem parts_no (d : Int) (w : World) (h : d < -25567 ∨ 84005 < d) :
    Calls Tryz.prog 113 #[.int .i64 d] w fun e w' => e = .returned (.tuple #[.int .i64 0, .int .i64 0, .int .i64 0, .int .i64 13]) ∧ w = w' := by
  have hf : decide (-25567 ≤ d ∧ d ≤ 84005) = false := by simp; omega
  have hv : ∀ W, Calls Tryz.prog 145 #[.int .i64 d] W fun e w' => e = .returned (.bool false) ∧ W = w' := fun W => by have := valid_any d W; rwa [hf] at this
  have H := Lib.hid hv
  clear hv hf
  go_enter Tryz.func113, Tryz.ntmps113
  go_wp2_with (go_at_call 145; refine (H.out _).mono ?_; rintro e w' ⟨rfl, rfl⟩)
  refine bodyPost_ret (results_tmp4 rfl _ _ _) rfl ?_
  exact ⟨rfl, rfl⟩

theorem parts_fin (n y m : Int) (h1 : 1900 ≤ y) (h2 : y ≤ 2199) (h3 : 1 ≤ m) (h4 : m ≤ 12) (h5 : 0 ≤ n - Cal.dby y - Cal.cum y m) (h6 : n - Cal.dby y - Cal.cum y m < Cal.dim y m) :
    Cal.civ n = (y, m, n - Cal.dby y - Cal.cum y m + 1) :=
  Cal.civ_of ⟨h1, h2, h3, h4, by omega, by omega⟩ (by unfold Cal.num; omega)
theorem parts_ret {n y m d : Int} (h : Cal.civ n = (y, m, d)) : Ending.returned (.tuple #[.int .i64 y, .int .i64 m, .int .i64 d, .int .i64 0]) =
    Ending.returned (.tuple #[.int .i64 (Cal.civ n).1, .int .i64 (Cal.civ n).2.1, .int .i64 (Cal.civ n).2.2, .int .i64 0]) := by rw [h]
set_option maxHeartbeats 1000000 in
theorem parts_yes (d : Int) (w : World) (h0 : -25567 ≤ d) (h1 : d ≤ 84005) :
    Calls Tryz.prog 113 #[.int .i64 d] w fun e w' => e = .returned (.tuple #[.int .i64 (Cal.civ (d + 25567)).1, .int .i64 (Cal.civ (d + 25567)).2.1, .int .i64 (Cal.civ (d + 25567)).2.2, .int .i64 0]) ∧ Below w.heap.size w w' := by
  have hf : decide (-25567 ≤ d ∧ d ≤ 84005) = true := by simp; omega
  have hv : ∀ W, Calls Tryz.prog 145 #[.int .i64 d] W fun e w' => e = .returned (.bool true) ∧ W = w' := fun W => by have := valid_any d W; rwa [hf] at this
  have H := Lib.hid hv
  clear hv hf
  obtain ⟨n, hn⟩ : ∃ n, n = d + 25567 := ⟨_, rfl⟩
  rw [← hn]
  obtain rfl : d = n - 25567 := by omega
  clear hn
  have g0 := Cal.dby_guess n (by omega)
  have em := Lib.hid Cal.dby_2200
  go_enter Tryz.func113, Tryz.ntmps113
  go_wp2_with (go_at_call 145; refine (H.out _).mono ?_; rintro e w' ⟨rfl, rfl⟩)
  go_loop [7] (fun t => ∃ y : Int, 1900 ≤ y ∧ y ≤ 2199 ∧ Cal.dby y ≤ n ∧ t = .int .i64 y) (fun t => (2199 - intOf t).toNat)
  case atStart => exact ⟨_, by omega, by omega, g0, rfl⟩
  case round =>
    obtain ⟨y, hy1, hy2, hy3, rfl⟩ := hrel
    by_cases hc : Cal.dby (y + 1) ≤ n
    · have hlt : y < 2199 := by
        rcases Int.lt_or_le y 2199 with h | h
        · exact h
        · have e2 : y = 2199 := by omega
          subst e2
          have := em.out
          rw [show (2199 : Int) + 1 = 2200 by omega] at hc
          omega
      go_wp2_with (go_at_call 115; refine (begin_any _ _ (by omega) (by omega)).mono ?_; rintro e w' ⟨rfl, rfl⟩)
      go_round
      case rel => exact ⟨y + 1, by omega, by omega, hc, rfl⟩
      case measure => simp [intOf]; omega
    · have hz : n < Cal.dby (y + 1) := by omega
      have hb := Cal.dby_bd y hy1 (by omega)
      have hs := Lib.hid (Cal.dby_succ y)
      have hl := Cal.lp_01 y
      clear hc g0
      go_wp2_with (go_at_call 115; refine (begin_any _ _ (by omega) (by omega)).mono ?_; rintro e w' ⟨rfl, rfl⟩)
      go_loopw [6, 8] (fun r k wr => ∃ m : Int, 1 ≤ m ∧ m ≤ 12 ∧ k = .int .i64 m ∧ 0 ≤ n - Cal.dby y - Cal.cum y m ∧ r = .int .i64 (n - Cal.dby y - Cal.cum y m) ∧ Below w.heap.size w wr) (fun _ k _ => (12 - intOf k).toNat)
      case atStart => exact ⟨1, by omega, by omega, rfl, by rw [Cal.cum_1]; omega, by rw [Cal.cum_1, Int.sub_zero], Below.refl _ _⟩
      case round =>
        obtain ⟨m, hm1, hm2, rfl, hr, rfl, hbr⟩ := hrel
        have cb := Cal.cum_bd y m hm1 (by omega)
        have db := Cal.dim_bd y m
        have cs := Lib.hid (Cal.cum_succ y m hm1 hm2)
        have c13 := Lib.hid (Cal.cum_13 y)
        by_cases hc : Cal.dim y m ≤ n - Cal.dby y - Cal.cum y m
        · have hm : m < 12 := by
            rcases Int.lt_or_le m 12 with h | h
            · exact h
            · have e2 : m = 12 := by omega
              subst e2
              have a := cs.out
              have b := c13.out
              have c := hs.out
              rw [show (12 : Int) + 1 = 13 by omega] at a
              omega
          go_wp2_with (go_at_call 114; refine (length_any _ _ _ (by omega) (by omega) (by omega) (by omega)).mono ?_; rintro e w2 ⟨rfl, hb2⟩)
          go_roundw
          case rel => exact ⟨m + 1, by omega, by omega, rfl, by rw [cs.out]; omega, by rw [cs.out]; go_num, below_up (below_up hbr (by assumption)) (by assumption)⟩
          case measure => simp [intOf]; omega
        · have hv : n - Cal.dby y - Cal.cum y m < Cal.dim y m := by omega
          clear hc
          go_wp2_with (go_at_call 114; refine (length_any _ _ _ (by omega) (by omega) (by omega) (by omega)).mono ?_; rintro e w2 ⟨rfl, hb2⟩)
          refine bodyPost_ret (results_tmp4 rfl _ _ _) rfl ?_
          exact ⟨parts_ret (parts_fin n y m hy1 hy2 hm1 hm2 hr hv), below_up hbr hb2⟩

theorem add_ret {d n a b : Int} (h : Cal.add d n = (a, b)) : Ending.returned (.tuple #[.int .i64 a, .int .i64 b]) = Ending.returned (.tuple #[.int .i64 (Cal.add d n).1, .int .i64 (Cal.add d n).2]) := by rw [h]
set_option maxHeartbeats 1000000 in
theorem add_any (d n : Int) (w : World) :
    Calls Tryz.prog 74 #[.int .i64 d, .int .i64 n] w fun e w' => e = .returned (.tuple #[.int .i64 (Cal.add d n).1, .int .i64 (Cal.add d n).2]) ∧ Below w.heap.size w w' := by
  by_cases h1 : d < -25567 ∨ 84005 < d
  · have hf := Lib.hid (Cal.add_day (n := n) h1)
    go_enter Tryz.func74, Tryz.ntmps74
    go_wp2_with (go_at_call 113; refine (parts_no _ _ h1).mono ?_; rintro e w' ⟨rfl, rfl⟩)
    go_ret2
    exact ⟨add_ret hf.out, Below.refl _ _⟩
  by_cases h2 : n < -4800 ∨ 4800 < n
  · have hf := Lib.hid (Cal.add_range (d := d) (by omega) (by omega) h2)
    rcases h2 with h2 | h2
    all_goals
      go_enter Tryz.func74, Tryz.ntmps74
      go_wp2_with (go_at_call 113; refine (parts_yes _ _ (by omega) (by omega)).mono ?_; rintro e w1 ⟨rfl, hb1⟩)
      go_ret2
      exact ⟨add_ret hf.out, hb1⟩
  have hs := Lib.hid (Cal.civ_spec (n := d + 25567) (by omega) (by omega))
  obtain ⟨⟨a1, a2, a3, a4, a5, a6⟩, _⟩ := Cal.civ_spec (n := d + 25567) (by omega) (by omega)
  have hm := Lib.hid (show Cal.months12 (d + 25567) n = 12 * (Cal.civ (d + 25567)).1 + (Cal.civ (d + 25567)).2.1 - 1 + n from rfl)
  have hy := Lib.hid (show Cal.shiftYear (d + 25567) n = Cal.months12 (d + 25567) n / 12 from rfl)
  have hmm := Lib.hid (show Cal.shiftMonth (d + 25567) n = Cal.months12 (d + 25567) n % 12 + 1 from rfl)
  have hno := fun h => Lib.hid (Cal.add_year (d := d) (n := n) (by omega) (by omega) (by omega) (by omega) h)
  have hok := fun h5 h6 => Lib.hid (Cal.add_ok (d := d) (n := n) (by omega) (by omega) (by omega) (by omega) h5 h6)
  have hva := fun h5 h6 => Lib.hid (Cal.shift_valid (n := d + 25567) (k := n) (by omega) (by omega) h5 h6)
  have hsd := Lib.hid (show Cal.shiftDay (d + 25567) n = min (Cal.civ (d + 25567)).2.2 (Cal.dim (Cal.shiftYear (d + 25567) n) (Cal.shiftMonth (d + 25567) n)) from rfl)
  have hsh := Lib.hid (show Cal.shift (d + 25567) n = Cal.num (Cal.shiftYear (d + 25567) n) (Cal.shiftMonth (d + 25567) n) (Cal.shiftDay (d + 25567) n) from rfl)
  have Hno := Lib.hid hno
  have Hok := Lib.hid hok
  have Hva := Lib.hid hva
  have Hp := Lib.hid (fun W => parts_yes d W (by omega) (by omega))
  generalize (Cal.civ (d + 25567)).1 = y at *
  generalize (Cal.civ (d + 25567)).2.1 = m at *
  generalize (Cal.civ (d + 25567)).2.2 = dd at *
  generalize Cal.shiftYear (d + 25567) n = y' at *
  generalize Cal.shiftMonth (d + 25567) n = m' at *
  clear hno hok hva hs
  have h22 : ¬ n < -4800 := by omega
  have h23 : ¬ 4800 < n := by omega
  have q1 := hy.out
  have q2 := hm.out
  have q3 := hmm.out
  rw [q2] at q1 q3
  clear hy hm hmm q2
  by_cases h3 : y' < 1900 ∨ 2199 < y'
  · have hf := Hno.out h3
    subst q1
    clear Hno Hok Hva hsd hsh q3
    rcases h3 with h3 | h3
    all_goals
      go_enter Tryz.func74, Tryz.ntmps74
      go_wp2_with (go_at_call 113; refine (Hp.out _).mono ?_; rintro e w1 ⟨rfl, hb1⟩)
      go_ret2
      exact ⟨add_ret hf.out, hb1⟩
  · have hf := Hok.out (by omega) (by omega)
    have hv := Hva.out (by omega) (by omega)
    have q4 := hsd.out
    have q5 := hsh.out
    have e1 : ¬ (12 * y + m - 1 + n) / 12 < 1900 := by omega
    have e2 : ¬ 2199 < (12 * y + m - 1 + n) / 12 := by omega
    have Q := Lib.hid (And.intro q1 (And.intro q3 (And.intro q4 q5)))
    clear q1 q3 q4 q5 hsd hsh Hno Hok Hva
    go_enter Tryz.func74, Tryz.ntmps74
    go_wp2_with (go_at_call 113; refine (Hp.out _).mono ?_; rintro e w1 ⟨rfl, hb1⟩)
    refine (length_any _ _ _ (by omega) (by omega) (by omega) (by omega)).mono ?_
    rintro e w2 ⟨rfl, hb2⟩
    go_wp2_with fail
    all_goals
      have hvv : Cal.Valid ((12 * y + m - 1 + n) / 12) ((12 * y + m - 1 + n) % 12 + 1) (min dd (Cal.dim ((12 * y + m - 1 + n) / 12) ((12 * y + m - 1 + n) % 12 + 1))) := by
        obtain ⟨q1, q3, q4, q5⟩ := Q.out
        have t := hv.out
        rw [q4, q1, q3] at t
        exact t
      have hr : Cal.shift (d + 25567) n = Cal.num ((12 * y + m - 1 + n) / 12) ((12 * y + m - 1 + n) % 12 + 1) (min dd (Cal.dim ((12 * y + m - 1 + n) / 12) ((12 * y + m - 1 + n) % 12 + 1))) := by
        obtain ⟨q1, q3, q4, q5⟩ := Q.out
        rw [q5, q4, q1, q3]
    · rw [show min dd (Cal.dim ((12 * y + m - 1 + n) / 12) ((12 * y + m - 1 + n) % 12 + 1)) = Cal.dim ((12 * y + m - 1 + n) / 12) ((12 * y + m - 1 + n) % 12 + 1) by omega] at hvv hr
      have Hr := Lib.hid hr
      clear hr
      refine (of_yes _ _ _ _ hvv).mono ?_
      rintro e w3 ⟨rfl, hb3⟩
      clear hvv
      go_wp2
      go_ret2
      exact ⟨add_ret (by rw [hf.out, Hr.out]), below_up (below_up hb1 hb2) hb3⟩
    · rw [show min dd (Cal.dim ((12 * y + m - 1 + n) / 12) ((12 * y + m - 1 + n) % 12 + 1)) = dd by omega] at hvv hr
      have Hr := Lib.hid hr
      clear hr
      refine (of_yes _ _ _ _ hvv).mono ?_
      rintro e w3 ⟨rfl, hb3⟩
      clear hvv
      go_wp2
      go_ret2
      exact ⟨add_ret (by rw [hf.out, Hr.out]), below_up (below_up hb1 hb2) hb3⟩

end Go.Proofs.YthlpfefckhdpiaaGreatDoor.Dt
