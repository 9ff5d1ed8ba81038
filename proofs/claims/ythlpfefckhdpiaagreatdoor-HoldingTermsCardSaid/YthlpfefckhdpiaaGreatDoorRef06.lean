/- The walks of the functions of package trancheref06 (the reference for dates): what they return, in the words of XCal. -/
import Derived.Test.YthlpfefckhdpiaaGreatDoorDate
namespace Go.Proofs.YthlpfefckhdpiaaGreatDoor.Ref06
open Go.RowKit Dt

theorem leap_any (y : Int) (w : World) (h0 : 0 ≤ y) (h1 : y ≤ 100000) :
    Calls Tryz.prog 170 #[.int .i64 y] w fun e w' => e = .returned (.bool (Cal.leap y)) ∧ w = w' := by
  go_enter Tryz.func170, Tryz.ntmps170
  go_wp2
  all_goals
    go_ret
    refine ⟨ret_bool ?_, rfl⟩
    rw [Bool.eq_iff_iff, Cal.leap_iff]
    simp
    try omega

theorem length_any (y m : Int) (w : World) (h0 : 0 ≤ y) (h1 : y ≤ 100000) :
    Calls Tryz.prog 133 #[.int .i64 y, .int .i64 m] w fun e w' => e = .returned (.int .i64 (Cal.dim y m)) ∧ w = w' := by
  by_cases h2 : m = 2
  · subst h2
    go_enter Tryz.func133, Tryz.ntmps133
    go_wp2_with (go_at_call 170; refine (leap_any _ _ (by omega) (by omega)).mono ?_; rintro e w' ⟨rfl, rfl⟩)
    all_goals
      go_ret
      exact ⟨ret_int (by simp [Cal.dim, Cal.lp, *]), rfl⟩
  by_cases h4 : m = 4
  · subst h4
    go_enter Tryz.func133, Tryz.ntmps133
    go_wp2
    go_ret
    exact ⟨ret_int (by simp [Cal.dim]), rfl⟩
  by_cases h6 : m = 6
  · subst h6
    go_enter Tryz.func133, Tryz.ntmps133
    go_wp2
    go_ret
    exact ⟨ret_int (by simp [Cal.dim]), rfl⟩
  by_cases h9 : m = 9
  · subst h9
    go_enter Tryz.func133, Tryz.ntmps133
    go_wp2
    go_ret
    exact ⟨ret_int (by simp [Cal.dim]), rfl⟩
  by_cases h11 : m = 11
  · subst h11
    go_enter Tryz.func133, Tryz.ntmps133
    go_wp2
    go_ret
    exact ⟨ret_int (by simp [Cal.dim]), rfl⟩
  have hd := Lib.hid (show Cal.dim y m = 31 by unfold Cal.dim; rw [if_neg h2, if_neg (by omega)])
  have b2 : (m == 2) = false := by simp [h2]
  have b4 : (m == 4) = false := by simp [h4]
  have b6 : (m == 6) = false := by simp [h6]
  have b9 : (m == 9) = false := by simp [h9]
  have b11 : (m == 11) = false := by simp [h11]
  go_enter Tryz.func133, Tryz.ntmps133
  go_wp2
  go_ret
  exact ⟨ret_int hd.out.symm, rfl⟩

theorem check_no (d : Int) (w : World) (h : d < -25567 ∨ 84005 < d) :
    Calls Tryz.prog 98 #[.int .i64 d] w fun e w' => e = .returned (.int .i64 13) ∧ w = w' := by
  rcases h with h | h
  all_goals
    go_enter Tryz.func98, Tryz.ntmps98
    go_wp2
    go_ret
    exact ⟨rfl, rfl⟩
theorem check_yes (d : Int) (w : World) (h0 : -25567 ≤ d) (h1 : d ≤ 84005) :
    Calls Tryz.prog 98 #[.int .i64 d] w fun e w' => e = .returned (.int .i64 0) ∧ w = w' := by
  go_enter Tryz.func98, Tryz.ntmps98
  go_wp2
  go_ret
  exact ⟨rfl, rfl⟩

theorem parts_no (d : Int) (w : World) (h : d < -25567 ∨ 84005 < d) :
    Calls Tryz.prog 131 #[.int .i64 d] w fun e w' => e = .returned (.tuple #[.int .i64 0, .int .i64 0, .int .i64 0, .int .i64 13]) ∧ w = w' := by
  go_enter Tryz.func131, Tryz.ntmps131
  go_wp2_with (go_at_call 98; refine (check_no _ _ h).mono ?_; rintro e w' ⟨rfl, rfl⟩)
  refine bodyPost_ret (results_tmp4 rfl _ _ _) rfl ?_
  exact ⟨rfl, rfl⟩

set_option maxHeartbeats 1000000 in
theorem parts_yes (d : Int) (w : World) (h0 : -25567 ≤ d) (h1 : d ≤ 84005) :
    Calls Tryz.prog 131 #[.int .i64 d] w fun e w' => e = .returned (.tuple #[.int .i64 (Cal.civ (d + 25567)).1, .int .i64 (Cal.civ (d + 25567)).2.1, .int .i64 (Cal.civ (d + 25567)).2.2, .int .i64 0]) ∧ w = w' := by
  obtain ⟨n, hn⟩ : ∃ n, n = d + 25567 := ⟨_, rfl⟩
  rw [← hn]
  obtain rfl : d = n - 25567 := by omega
  clear hn
  have em := Lib.hid Cal.dby_2200
  have e0 := Lib.hid Cal.dby_1900
  go_enter Tryz.func131, Tryz.ntmps131
  go_wp2_with (go_at_call 98; refine (check_yes _ _ (by omega) (by omega)).mono ?_; rintro e w' ⟨rfl, rfl⟩)
  go_loop [6, 7, 9] (fun r t _ => ∃ y : Int, 1900 ≤ y ∧ y ≤ 2199 ∧ 0 ≤ n - Cal.dby y ∧ r = .int .i64 (n - Cal.dby y) ∧ t = .int .i64 y) (fun _ t _ => (2199 - intOf t).toNat)
  case atStart => exact ⟨1900, by omega, by omega, by rw [e0.out]; omega, by rw [e0.out, Int.sub_zero], rfl⟩
  case round =>
    obtain ⟨y, hy1, hy2, hy3, rfl, rfl⟩ := hrel
    have hs := Lib.hid (Cal.dby_succ y)
    have hb := Cal.dby_bd y hy1 (by omega)
    by_cases hlp : Cal.leap y = true
    · have hl := Lib.hid (show Cal.lp y = 1 by unfold Cal.lp; rw [if_pos hlp])
      have HL := Lib.hid (fun W => show Calls Tryz.prog 170 #[.int .i64 y] W fun e w' => e = .returned (.bool true) ∧ W = w' by have := leap_any y W (by omega) (by omega); rwa [hlp] at this)
      clear hlp
      by_cases hc : n - Cal.dby y < 366
      · go_wp2_with (go_at_call 170; refine (HL.out _).mono ?_; rintro e w' ⟨rfl, rfl⟩)
        go_loop [6, 8] (fun r k => ∃ m : Int, 1 ≤ m ∧ m ≤ 12 ∧ k = .int .i64 m ∧ 0 ≤ n - Cal.dby y - Cal.cum y m ∧ r = .int .i64 (n - Cal.dby y - Cal.cum y m)) (fun _ k => (12 - intOf k).toNat)
        case atStart => exact ⟨1, by omega, by omega, rfl, by rw [Cal.cum_1]; omega, by rw [Cal.cum_1, Int.sub_zero]⟩
        case round =>
          obtain ⟨m, hm1, hm2, rfl, hr, rfl⟩ := hrel
          have cb := Cal.cum_bd y m hm1 (by omega)
          have db := Cal.dim_bd y m
          have cs := Lib.hid (Cal.cum_succ y m hm1 hm2)
          have c13 := Lib.hid (Cal.cum_13 y)
          by_cases hd : Cal.dim y m ≤ n - Cal.dby y - Cal.cum y m
          · have hm : m < 12 := by
              rcases Int.lt_or_le m 12 with h | h
              · exact h
              · have e2 : m = 12 := by omega
                subst e2
                have a := cs.out
                have b := c13.out
                have c := hl.out
                rw [show (12 : Int) + 1 = 13 by omega] at a
                omega
            go_wp2_with (go_at_call 133; refine (length_any _ _ _ (by omega) (by omega)).mono ?_; rintro e w2 ⟨rfl, rfl⟩)
            go_round
            case rel => exact ⟨m + 1, by omega, by omega, rfl, by rw [cs.out]; omega, by rw [cs.out]; go_num⟩
            case measure => simp [intOf]; omega
          · have hv : n - Cal.dby y - Cal.cum y m < Cal.dim y m := by omega
            clear hd
            go_wp2_with (go_at_call 133; refine (length_any _ _ _ (by omega) (by omega)).mono ?_; rintro e w2 ⟨rfl, rfl⟩)
            refine bodyPost_ret (results_tmp4 rfl _ _ _) rfl ?_
            exact ⟨parts_ret (parts_fin n y m hy1 hy2 hm1 hm2 hr hv), rfl⟩
      · have hlt : y < 2199 := by
          rcases Int.lt_or_le y 2199 with h | h
          · exact h
          · have e2 : y = 2199 := by omega
            subst e2
            have a := em.out
            have b := hs.out
            have c := hl.out
            rw [show (2199 : Int) + 1 = 2200 by omega] at b
            omega
        go_wp2_with (go_at_call 170; refine (HL.out _).mono ?_; rintro e w' ⟨rfl, rfl⟩)
        go_round
        case rel => exact ⟨y + 1, by omega, by omega, by rw [hs.out, hl.out]; omega, by rw [hs.out, hl.out]; go_num, rfl⟩
        case measure => simp [intOf]; omega
    · have hl := Lib.hid (show Cal.lp y = 0 by unfold Cal.lp; rw [if_neg hlp])
      have hlp' : Cal.leap y = false := by simpa using hlp
      have HL := Lib.hid (fun W => show Calls Tryz.prog 170 #[.int .i64 y] W fun e w' => e = .returned (.bool false) ∧ W = w' by have := leap_any y W (by omega) (by omega); rwa [hlp'] at this)
      clear hlp hlp'
      by_cases hc : n - Cal.dby y < 365
      · go_wp2_with (go_at_call 170; refine (HL.out _).mono ?_; rintro e w' ⟨rfl, rfl⟩)
        go_loop [6, 8] (fun r k => ∃ m : Int, 1 ≤ m ∧ m ≤ 12 ∧ k = .int .i64 m ∧ 0 ≤ n - Cal.dby y - Cal.cum y m ∧ r = .int .i64 (n - Cal.dby y - Cal.cum y m)) (fun _ k => (12 - intOf k).toNat)
        case atStart => exact ⟨1, by omega, by omega, rfl, by rw [Cal.cum_1]; omega, by rw [Cal.cum_1, Int.sub_zero]⟩
        case round =>
          obtain ⟨m, hm1, hm2, rfl, hr, rfl⟩ := hrel
          have cb := Cal.cum_bd y m hm1 (by omega)
          have db := Cal.dim_bd y m
          have cs := Lib.hid (Cal.cum_succ y m hm1 hm2)
          have c13 := Lib.hid (Cal.cum_13 y)
          by_cases hd : Cal.dim y m ≤ n - Cal.dby y - Cal.cum y m
          · have hm : m < 12 := by
              rcases Int.lt_or_le m 12 with h | h
              · exact h
              · have e2 : m = 12 := by omega
                subst e2
                have a := cs.out
                have b := c13.out
                have c := hl.out
                rw [show (12 : Int) + 1 = 13 by omega] at a
                omega
            go_wp2_with (go_at_call 133; refine (length_any _ _ _ (by omega) (by omega)).mono ?_; rintro e w2 ⟨rfl, rfl⟩)
            go_round
            case rel => exact ⟨m + 1, by omega, by omega, rfl, by rw [cs.out]; omega, by rw [cs.out]; go_num⟩
            case measure => simp [intOf]; omega
          · have hv : n - Cal.dby y - Cal.cum y m < Cal.dim y m := by omega
            clear hd
            go_wp2_with (go_at_call 133; refine (length_any _ _ _ (by omega) (by omega)).mono ?_; rintro e w2 ⟨rfl, rfl⟩)
            refine bodyPost_ret (results_tmp4 rfl _ _ _) rfl ?_
            exact ⟨parts_ret (parts_fin n y m hy1 hy2 hm1 hm2 hr hv), rfl⟩
      · have hlt : y < 2199 := by
          rcases Int.lt_or_le y 2199 with h | h
          · exact h
          · have e2 : y = 2199 := by omega
            subst e2
            have a := em.out
            have b := hs.out
            have c := hl.out
            rw [show (2199 : Int) + 1 = 2200 by omega] at b
            omega
        go_wp2_with (go_at_call 170; refine (HL.out _).mono ?_; rintro e w' ⟨rfl, rfl⟩)
        go_round
        case rel => exact ⟨y + 1, by omega, by omega, by rw [hs.out, hl.out]; omega, by rw [hs.out, hl.out]; go_num, rfl⟩
        case measure => simp [intOf]; omega

theorem of_yes (y m d : Int) (w : World) (h : Cal.Valid y m d) :
    Calls Tryz.prog 132 #[.int .i64 y, .int .i64 m, .int .i64 d] w fun e w' => e = .returned (.tuple #[.int .i64 (Cal.num y m d - 25567), .int .i64 0]) ∧ w = w' := by
  obtain ⟨h1, h2, h3, h4, h5, h6⟩ := h
  have hd := Cal.dim_bd y m
  have hb := Cal.dby_bd y h1 (by omega)
  have e0 := Lib.hid Cal.dby_1900
  go_enter Tryz.func132, Tryz.ntmps132
  go_wp2_with (go_at_call 133; refine (length_any _ _ _ (by omega) (by omega)).mono ?_; rintro e w1 ⟨rfl, rfl⟩)
  go_loop [8, 9] (fun n i => ∃ k : Int, 1900 ≤ k ∧ k ≤ y ∧ i = .int .i64 k ∧ n = .int .i64 (Cal.dby k + d - 25568)) (fun _ i => (2199 - intOf i).toNat)
  case atStart => exact ⟨1900, by omega, by omega, rfl, by rw [e0.out]; go_num⟩
  case round =>
    obtain ⟨k, hk1, hk2, rfl, rfl⟩ := hrel
    have hs := Lib.hid (Cal.dby_succ k)
    have hbk := Cal.dby_bd k hk1 (by omega)
    by_cases hlt : k < y
    · by_cases hlp : Cal.leap k = true
      · have hl := Lib.hid (show Cal.lp k = 1 by unfold Cal.lp; rw [if_pos hlp])
        have HL := Lib.hid (fun W => show Calls Tryz.prog 170 #[.int .i64 k] W fun e w' => e = .returned (.bool true) ∧ W = w' by have := leap_any k W (by omega) (by omega); rwa [hlp] at this)
        clear hlp
        go_wp2_with (go_at_call 170; refine (HL.out _).mono ?_; rintro e w' ⟨rfl, rfl⟩)
        go_round
        case rel => exact ⟨k + 1, by omega, by omega, rfl, by rw [hs.out, hl.out]; go_num⟩
        case measure => simp [intOf]; omega
      · have hl := Lib.hid (show Cal.lp k = 0 by unfold Cal.lp; rw [if_neg hlp])
        have hlp' : Cal.leap k = false := by simpa using hlp
        have HL := Lib.hid (fun W => show Calls Tryz.prog 170 #[.int .i64 k] W fun e w' => e = .returned (.bool false) ∧ W = w' by have := leap_any k W (by omega) (by omega); rwa [hlp'] at this)
        clear hlp hlp'
        go_wp2_with (go_at_call 170; refine (HL.out _).mono ?_; rintro e w' ⟨rfl, rfl⟩)
        go_round
        case rel => exact ⟨k + 1, by omega, by omega, rfl, by rw [hs.out, hl.out]; go_num⟩
        case measure => simp [intOf]; omega
    · have hky : k = y := by omega
      subst hky
      go_wp2
      go_loop [8, 10] (fun n i => ∃ j : Int, 1 ≤ j ∧ j ≤ m ∧ i = .int .i64 j ∧ n = .int .i64 (Cal.dby k + Cal.cum k j + d - 25568)) (fun _ i => (12 - intOf i).toNat)
      case atStart => exact ⟨1, by omega, by omega, rfl, by rw [Cal.cum_1]; go_num⟩
      case round =>
        obtain ⟨j, hj1, hj2, rfl, rfl⟩ := hrel
        have cb := Cal.cum_bd k j hj1 (by omega)
        have db := Cal.dim_bd k j
        by_cases hlt2 : j < m
        · have cs := Lib.hid (Cal.cum_succ k j hj1 (by omega))
          go_wp2_with (go_at_call 133; refine (length_any _ _ _ (by omega) (by omega)).mono ?_; rintro e w2 ⟨rfl, rfl⟩)
          go_round
          case rel => exact ⟨j + 1, by omega, by omega, rfl, by rw [cs.out]; go_num⟩
          case measure => simp [intOf]; omega
        · have hjm : j = m := by omega
          subst hjm
          go_wp2
          go_ret2
          exact ⟨by rw [show Cal.num k j d = Cal.dby k + Cal.cum k j + d - 1 from rfl]; simp; omega, rfl⟩

set_option maxHeartbeats 1000000 in
theorem add_any (d n : Int) (w : World) :
    Calls Tryz.prog 90 #[.int .i64 d, .int .i64 n] w fun e w' => e = .returned (.tuple #[.int .i64 (Cal.add d n).1, .int .i64 (Cal.add d n).2]) ∧ w = w' := by
  by_cases h1 : d < -25567 ∨ 84005 < d
  · have hf := Lib.hid (Cal.add_day (n := n) h1)
    go_enter Tryz.func90, Tryz.ntmps90
    go_wp2_with (go_at_call 131; refine (parts_no _ _ h1).mono ?_; rintro e w' ⟨rfl, rfl⟩)
    go_ret2
    exact ⟨add_ret hf.out, rfl⟩
  by_cases h2 : n < -4800 ∨ 4800 < n
  · have hf := Lib.hid (Cal.add_range (d := d) (by omega) (by omega) h2)
    rcases h2 with h2 | h2
    all_goals
      go_enter Tryz.func90, Tryz.ntmps90
      go_wp2_with (go_at_call 131; refine (parts_yes _ _ (by omega) (by omega)).mono ?_; rintro e w1 ⟨rfl, rfl⟩)
      go_ret2
      exact ⟨add_ret hf.out, rfl⟩
  obtain ⟨⟨a1, a2, a3, a4, a5, a6⟩, _⟩ := Cal.civ_spec (n := d + 25567) (by omega) (by omega)
  have hm := Lib.hid (show Cal.months12 (d + 25567) n = 12 * (Cal.civ (d + 25567)).1 + (Cal.civ (d + 25567)).2.1 - 1 + n from rfl)
  have hy := Lib.hid (show Cal.shiftYear (d + 25567) n = Cal.months12 (d + 25567) n / 12 from rfl)
  have hmm := Lib.hid (show Cal.shiftMonth (d + 25567) n = Cal.months12 (d + 25567) n % 12 + 1 from rfl)
  have hno := fun h => Lib.hid (Cal.add_year (d := d) (n := n) (by omega) (by omega) (by omega) (by omega) h)
  have hok := fun h5 h6 => Lib.hid (Cal.add_ok (d := d) (n := n) (by omega) (by omega) (by omega) (by omega) h5 h6)
  have hva := fun h5 h6 => Lib.hid (Cal.shift_valid (n := d + 25567) (k := n) (by omega) (by omega) h5 h6)
  have hsd := Lib.hid (show Cal.shiftDay (d + 25567) n = min (Cal.civ (d + 25567)).2.2 (Cal.dim (Cal.shiftYear (d + 25567) n) (Cal.shiftMonth (d + 25567) n)) from rfl)
  have hsh := Lib.hid (show Cal.shift (d + 25567) n = Cal.num (Cal.shiftYear (d + 25567) n) (Cal.shiftMonth (d + 25567) n) (Cal.shiftDay (d + 25567) n) from rfl)
  have Hno := Lib.hid hno
  have Hok := Lib.hid hok
  have Hva := Lib.hid hva
  have Hp := Lib.hid (fun W => parts_yes d W (by omega) (by omega))
  generalize (Cal.civ (d + 25567)).1 = y at *
  generalize (Cal.civ (d + 25567)).2.1 = m at *
  generalize (Cal.civ (d + 25567)).2.2 = dd at *
  generalize Cal.shiftYear (d + 25567) n = y' at *
  generalize Cal.shiftMonth (d + 25567) n = m' at *
  clear hno hok hva
  have h22 : ¬ n < -4800 := by omega
  have h23 : ¬ 4800 < n := by omega
  have q1 := hy.out
  have q2 := hm.out
  have q3 := hmm.out
  rw [q2] at q1 q3
  clear hy hm hmm q2
  by_cases h3 : y' < 1900 ∨ 2199 < y'
  · have hf := Hno.out h3
    have h3' : 12 * y + m - 1 + n < 22800 ∨ 26400 ≤ 12 * y + m - 1 + n := by omega
    clear Hno Hok Hva hsd hsh q3 q1 h3
    rcases h3' with h3 | h3
    all_goals
      go_enter Tryz.func90, Tryz.ntmps90
      go_wp2_with (go_at_call 131; refine (Hp.out _).mono ?_; rintro e w1 ⟨rfl, rfl⟩)
      go_ret2
      exact ⟨add_ret hf.out, rfl⟩
  · have hf := Hok.out (by omega) (by omega)
    have hv := Hva.out (by omega) (by omega)
    have q4 := hsd.out
    have q5 := hsh.out
    have e1 : ¬ 12 * y + m - 1 + n < 22800 := by omega
    have e2 : ¬ 26400 ≤ 12 * y + m - 1 + n := by omega
    have Q := Lib.hid (And.intro q1 (And.intro q3 (And.intro q4 q5)))
    clear q1 q3 q4 q5 hsd hsh Hno Hok Hva
    go_enter Tryz.func90, Tryz.ntmps90
    go_wp2_with (go_at_call 131; refine (Hp.out _).mono ?_; rintro e w1 ⟨rfl, rfl⟩)
    refine (length_any _ _ _ (by omega) (by omega)).mono ?_
    rintro e w2 ⟨rfl, rfl⟩
    go_wp2_with fail
    all_goals
      have hvv : Cal.Valid ((12 * y + m - 1 + n) / 12) ((12 * y + m - 1 + n) % 12 + 1) (min dd (Cal.dim ((12 * y + m - 1 + n) / 12) ((12 * y + m - 1 + n) % 12 + 1))) := by
        obtain ⟨q1, q3, q4, q5⟩ := Q.out
        have t := hv.out
        rw [q4, q1, q3] at t
        exact t
      have hr : Cal.shift (d + 25567) n = Cal.num ((12 * y + m - 1 + n) / 12) ((12 * y + m - 1 + n) % 12 + 1) (min dd (Cal.dim ((12 * y + m - 1 + n) / 12) ((12 * y + m - 1 + n) % 12 + 1))) := by
        obtain ⟨q1, q3, q4, q5⟩ := Q.out
        rw [q5, q4, q1, q3]
    · rw [show min dd (Cal.dim ((12 * y + m - 1 + n) / 12) ((12 * y + m - 1 + n) % 12 + 1)) = Cal.dim ((12 * y + m - 1 + n) / 12) ((12 * y + m - 1 + n) % 12 + 1) by omega] at hvv hr
      have Hr := Lib.hid hr
      clear hr
      refine (of_yes _ _ _ _ hvv).mono ?_
      rintro e w3 ⟨rfl, rfl⟩
      clear hvv
      go_wp2
      go_ret2
      exact ⟨add_ret (by rw [hf.out, Hr.out]), rfl⟩
    · rw [show min dd (Cal.dim ((12 * y + m - 1 + n) / 12) ((12 * y + m - 1 + n) % 12 + 1)) = dd by omega] at hvv hr
      have Hr := Lib.hid hr
      clear hr
      refine (of_yes _ _ _ _ hvv).mono ?_
      rintro e w3 ⟨rfl, rfl⟩
      clear hvv
      go_wp2
      go_ret2
      exact ⟨add_ret (by rw [hf.out, Hr.out]), rfl⟩

end Go.Proofs.YthlpfefckhdpiaaGreatDoor.Ref06
