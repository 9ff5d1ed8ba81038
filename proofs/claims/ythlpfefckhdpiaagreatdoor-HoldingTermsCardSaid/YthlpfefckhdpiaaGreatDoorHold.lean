/- The walks of package holding over days and months, and of its reference: what they return, in the words of XCal. -/
import Derived.Test.YthlpfefckhdpiaaGreatDoorDate
import Derived.Test.YthlpfefckhdpiaaGreatDoorRef06
import Derived.Conc.MuLone
namespace Go.Proofs.YthlpfefckhdpiaaGreatDoor.Dt
open Go.RowKit

def bad (n : Int) : Bool := decide (n < 0 ∨ 120 < n)
theorem bad_any (n : Int) (w : World) :
    Calls Tryz.prog 78 #[.int .i64 n] w fun e w' => e = .returned (.bool (bad n)) ∧ w = w' := by
  by_cases h : n < 0
  · have hb := Lib.hid (show bad n = true by simp [bad, h])
    go_enter Tryz.func78, Tryz.ntmps78
    go_wp2
    go_ret
    exact ⟨ret_bool hb.out.symm, rfl⟩
  · have hb := Lib.hid (show bad n = decide (120 < n) by simp [bad, h])
    go_enter Tryz.func78, Tryz.ntmps78
    go_wp2
    go_ret
    exact ⟨ret_bool hb.out.symm, rfl⟩

/-- what slices.IndexFunc returns -/
def idxOf (p : Int → Bool) (zs : List Int) : Int := match zs.findIdx? p with | some i => i | none => -1
theorem idxOf_none {p : Int → Bool} {zs : List Int} (h : ∀ k, k < zs.length → p (zs.getD k 0) = false) : idxOf p zs = -1 := by
  have : zs.findIdx? p = none := by
    rw [List.findIdx?_eq_none_iff]
    intro x hx
    obtain ⟨k, hk, rfl⟩ := List.getElem_of_mem hx
    have := h k hk
    rwa [List.getD_eq_getElem?_getD, List.getElem?_eq_getElem hk] at this
  simp [idxOf, this]
theorem idxOf_some {p : Int → Bool} {zs : List Int} {i : Nat} (hi : i < zs.length) (h : ∀ k, k < i → p (zs.getD k 0) = false) (hp : p (zs.getD i 0) = true) : idxOf p zs = i := by
  have : zs.findIdx? p = some i := by
    rw [List.findIdx?_eq_some_iff_getElem]
    refine ⟨hi, by rwa [List.getD_eq_getElem?_getD, List.getElem?_eq_getElem hi] at hp, fun j hj => ?_⟩
    have := h j hj
    rw [List.getD_eq_getElem?_getD, List.getElem?_eq_getElem (by omega)] at this
    simpa using this
  simp [idxOf, this]

theorem indexFunc_int (g : Nat) (p : Int → Bool) (hen : ∀ (args : Array Value) (w : World), (callFunc g args).run Tryz.prog w = .ok (.enter g args) w)
    (hg : ∀ z W, Calls Tryz.prog g #[.int .i64 z] W fun e w' => e = .returned (.bool (p z)) ∧ W = w')
    (zs : List Int) (b off cap : Nat) (w : World) (hl : zs.length ≤ 9223372036854775807) (hc : ∀ k, k < zs.length → w.cell? ⟨b, off + k, none⟩ = some (.int .i64 (zs.getD k 0))) :
    Calls Tryz.prog 118 #[.slice (some ⟨b, off, none⟩) zs.length cap, .func (.func g) #[] #[]] w fun e w' => e = .returned (.int .i64 (idxOf p zs)) ∧ w = w' := by
  have HG := Lib.hid hg
  have HC := Lib.hid hc
  obtain ⟨n, hn⟩ : ∃ n, n = zs.length := ⟨_, rfl⟩
  have HN := Lib.hid hn
  rw [← hn] at hl ⊢
  clear hg hc hn
  go_enter Tryz.func118, Tryz.ntmps118
  go_wp2
  go_loop [5, 8] (fun _ i => ∃ k : Nat, k ≤ n ∧ i = .int .i64 k ∧ ∀ j, j < k → p (zs.getD j 0) = false) (fun _ i => n - (intOf i).toNat)
  case atStart => exact ⟨0, Nat.zero_le _, rfl, fun j hj => by omega⟩
  case round =>
    obtain ⟨k, hk, rfl, hp⟩ := hrel
    have HP := Lib.hid hp
    clear hp
    by_cases hlt : k < n
    · have hcell := HC.out k (by rw [← HN.out]; exact hlt)
      have hgk := fun W => HG.out (zs.getD k 0) W
      generalize hz : zs.getD k 0 = z at hgk hcell
      have HZ := Lib.hid hz
      clear hz
      by_cases hpk : p z = true
      · rw [hpk] at hgk
        have HGK := Lib.hid hgk
        have HPK := Lib.hid hpk
        clear hgk hpk
        go_wp2_with fail
        refine (HGK.out _).mono ?_
        rintro e w' ⟨rfl, rfl⟩
        go_wp2
        go_ret
        exact ⟨ret_int (idxOf_some (by rw [← HN.out]; exact hlt) HP.out (by rw [HZ.out]; exact HPK.out)).symm, rfl⟩
      · have hpk' : p z = false := by simpa using hpk
        rw [hpk'] at hgk
        have HGK := Lib.hid hgk
        have HPK := Lib.hid hpk'
        clear hgk hpk hpk'
        go_wp2_with fail
        refine (HGK.out _).mono ?_
        rintro e w' ⟨rfl, rfl⟩
        go_wp2
        go_round
        case rel => exact ⟨k + 1, by omega, by go_num, fun j hj => by
          rcases Nat.lt_or_ge j k with h | h
          · exact HP.out j h
          · obtain rfl : j = k := by omega
            rw [HZ.out]; exact HPK.out⟩
        case measure => simp [intOf]; omega
    · obtain rfl : k = n := by omega
      go_wp2
      go_ret
      exact ⟨ret_int (idxOf_none (by rw [← HN.out]; exact HP.out)).symm, rfl⟩

theorem containsFunc_int (g : Nat) (p : Int → Bool) (hen : ∀ (args : Array Value) (w : World), (callFunc g args).run Tryz.prog w = .ok (.enter g args) w)
    (hg : ∀ z W, Calls Tryz.prog g #[.int .i64 z] W fun e w' => e = .returned (.bool (p z)) ∧ W = w')
    (zs : List Int) (b off cap : Nat) (w : World) (hl : zs.length ≤ 9223372036854775807) (hc : ∀ k, k < zs.length → w.cell? ⟨b, off + k, none⟩ = some (.int .i64 (zs.getD k 0))) :
    Calls Tryz.prog 77 #[.slice (some ⟨b, off, none⟩) zs.length cap, .func (.func g) #[] #[]] w fun e w' => e = .returned (.bool (zs.any p)) ∧ w = w' := by
  have h := indexFunc_int g p hen hg zs b off cap w hl hc
  have e : decide (0 ≤ idxOf p zs) = zs.any p := by
    rw [Bool.eq_iff_iff]
    unfold idxOf
    cases hf : zs.findIdx? p with
    | none => rw [List.findIdx?_eq_none_iff] at hf; simp; intro x hx; simpa using hf x hx
    | some i =>
      obtain ⟨h1, h2, _⟩ := List.findIdx?_eq_some_iff_getElem.1 hf
      simp
      exact ⟨_, List.getElem_mem h1, h2⟩
  rw [← e]
  generalize idxOf p zs = r at *
  generalize zs.length = n at *
  have H := Lib.hid h
  clear h hg hc e hen
  go_enter Tryz.func77, Tryz.ntmps77
  go_wp2_with (go_at_call 118; refine H.out.mono ?_; rintro e w' ⟨rfl, rfl⟩)
  go_ret
  exact ⟨rfl, rfl⟩

theorem checkMonths_ints (zs : List Int) (b off cap : Nat) (w : World) (hl : zs.length ≤ 9223372036854775807) (hc : ∀ k, k < zs.length → w.cell? ⟨b, off + k, none⟩ = some (.int .i64 (zs.getD k 0))) :
    Calls Tryz.prog 39 #[.slice (some ⟨b, off, none⟩) zs.length cap] w fun e w' => e = .returned (.int .i64 (if zs.any bad = true then 2 else 0)) ∧ w = w' := by
  have h := containsFunc_int 78 bad (fun args w => MuLone.run_callFunc_enter Tryz.func78 (by kernel_rfl) rfl args w) bad_any zs b off cap w hl hc
  by_cases hb : zs.any bad = true
  · rw [hb] at h
    rw [if_pos hb]
    generalize zs.length = n at *
    have H := Lib.hid h
    clear h hc hb
    go_enter Tryz.func39, Tryz.ntmps39
    go_wp2_with (go_at_call 77; refine H.out.mono ?_; rintro e w' ⟨rfl, rfl⟩)
    go_ret
    exact ⟨rfl, rfl⟩
  · rw [if_neg hb]
    simp only [Bool.not_eq_true] at hb
    rw [hb] at h
    generalize zs.length = n at *
    have H := Lib.hid h
    clear h hc hb
    go_enter Tryz.func39, Tryz.ntmps39
    go_wp2_with (go_at_call 77; refine H.out.mono ?_; rintro e w' ⟨rfl, rfl⟩)
    go_ret
    exact ⟨rfl, rfl⟩

theorem checkMonths_yes (n : Int) (b off cap : Nat) (w : World) (h0 : 0 ≤ n) (h1 : n ≤ 120) (hc : w.cell? ⟨b, off, none⟩ = some (.int .i64 n)) :
    Calls Tryz.prog 39 #[.slice (some ⟨b, off, none⟩) 1 cap] w fun e w' => e = .returned (.int .i64 0) ∧ w = w' := by
  have h := checkMonths_ints [n] b off cap w (by simp) (fun k hk => by obtain rfl : k = 0 := by simpa using hk
                                                                       simpa using hc)
  rw [if_neg (by simp [bad]; omega)] at h
  exact h
theorem checkMonths_no (n : Int) (b off cap : Nat) (w : World) (h0 : n < 0 ∨ 120 < n) (hc : w.cell? ⟨b, off, none⟩ = some (.int .i64 n)) :
    Calls Tryz.prog 39 #[.slice (some ⟨b, off, none⟩) 1 cap] w fun e w' => e = .returned (.int .i64 2) ∧ w = w' := by
  have h := checkMonths_ints [n] b off cap w (by simp) (fun k hk => by obtain rfl : k = 0 := by simpa using hk
                                                                       simpa using hc)
  rw [if_pos (by simp [bad]; omega)] at h
  exact h

theorem hvalid_yes (d : Int) (w : World) (h0 : -25567 ≤ d) (h1 : d ≤ 84005) :
    Calls Tryz.prog 40 #[.int .i64 d] w fun e w' => e = .returned (.bool true) ∧ w = w' := by
  go_enter Tryz.func40, Tryz.ntmps40
  go_wp2
  go_ret
  exact ⟨ret_bool (by simp), rfl⟩
theorem hvalid_no (d : Int) (w : World) (h : d < -25567 ∨ 84005 < d) :
    Calls Tryz.prog 40 #[.int .i64 d] w fun e w' => e = .returned (.bool false) ∧ w = w' := by
  rcases h with h | h
  all_goals
    go_enter Tryz.func40, Tryz.ntmps40
    go_wp2
    go_ret
    exact ⟨ret_bool (by simp; try omega), rfl⟩

/-- whether a holding is long, what Long and what Turns return -/
noncomputable def isLong (a c m : Int) : Bool := (Cal.add a m).2 == 0 && decide ((Cal.add a m).1 < c)
noncomputable def longRes (a c m : Int) : Bool × Int :=
  if m < 0 ∨ 120 < m then (false, 2) else if (a < -25567 ∨ 84005 < a) ∨ (c < -25567 ∨ 84005 < c) then (false, 13) else if c < a then (false, 8) else (isLong a c m, 0)
noncomputable def turnsRes (a m : Int) : Int × Int :=
  if m < 0 ∨ 120 < m then (0, 2) else if (a < -25567 ∨ 84005 < a) ∨ (Cal.add a m).2 ≠ 0 ∨ (Cal.add a m).1 = 84005 then (0, 13) else ((Cal.add a m).1 + 1, 0)

theorem long_any (a c m : Int) (w : World) :
    Calls Tryz.prog 43 #[.int .i64 a, .int .i64 c, .int .i64 m] w fun e w' => e = .returned (.bool (isLong a c m)) ∧ Below w.heap.size w w' := by
  have hd := Lib.hid (show isLong a c m = ((Cal.add a m).2 == 0 && decide ((Cal.add a m).1 < c)) from rfl)
  have H := Lib.hid (fun W => add_any a m W)
  generalize (Cal.add a m).1 = x at *
  generalize (Cal.add a m).2 = y at *
  by_cases hy : y = 0
  · subst hy
    go_enter Tryz.func43, Tryz.ntmps43
    go_wp2_with (go_at_call 74; refine (H.out _).mono ?_; rintro e w1 ⟨rfl, hb1⟩)
    go_ret
    exact ⟨ret_bool (by rw [hd.out]; simp), hb1⟩
  · have hy' : (y == 0) = false := by simpa using hy
    clear hy
    go_enter Tryz.func43, Tryz.ntmps43
    go_wp2_with (go_at_call 74; refine (H.out _).mono ?_; rintro e w1 ⟨rfl, hb1⟩)
    go_ret
    exact ⟨ret_bool (by rw [hd.out, hy']; simp), hb1⟩

theorem ret_bi {a : Bool} {b : Int} {p : Bool × Int} (h : p = (a, b)) : Ending.returned (.tuple #[.bool a, .int .i64 b]) = Ending.returned (.tuple #[.bool p.1, .int .i64 p.2]) := by rw [h]
theorem ret_ii {a b : Int} {p : Int × Int} (h : p = (a, b)) : Ending.returned (.tuple #[.int .i64 a, .int .i64 b]) = Ending.returned (.tuple #[.int .i64 p.1, .int .i64 p.2]) := by rw [h]

theorem Long_any (a c m : Int) (w : World) :
    Calls Tryz.prog 14 #[.int .i64 a, .int .i64 c, .int .i64 m] w fun e w' => e = .returned (.tuple #[.bool (longRes a c m).1, .int .i64 (longRes a c m).2]) ∧ Below w.heap.size w w' := by
  by_cases h1 : m < 0 ∨ 120 < m
  · have hr := Lib.hid (show longRes a c m = (false, 2) by unfold longRes; rw [if_pos h1])
    go_enter Tryz.func14, Tryz.ntmps14
    go_wp2_with (go_at_call 39; refine (checkMonths_no m _ _ _ _ h1 (by simp)).mono ?_; rintro e w1 ⟨rfl, rfl⟩)
    go_ret2
    exact ⟨ret_bi hr.out, (Below.refl _ _).alloc (Nat.le_refl _) _⟩
  by_cases h2 : a < -25567 ∨ 84005 < a
  · have hr := Lib.hid (show longRes a c m = (false, 13) by unfold longRes; rw [if_neg h1, if_pos (.inl h2)])
    go_enter Tryz.func14, Tryz.ntmps14
    go_wp2_with (first | (go_at_call 39; refine (checkMonths_yes m _ _ _ _ (by omega) (by omega) (by simp)).mono ?_; rintro e w1 ⟨rfl, rfl⟩) | (go_at_call 40; refine (hvalid_no _ _ h2).mono ?_; rintro e w1 ⟨rfl, rfl⟩))
    go_ret2
    exact ⟨ret_bi hr.out, (Below.refl _ _).alloc (Nat.le_refl _) _⟩
  by_cases h3 : c < -25567 ∨ 84005 < c
  · have hr := Lib.hid (show longRes a c m = (false, 13) by unfold longRes; rw [if_neg h1, if_pos (.inr h3)])
    go_enter Tryz.func14, Tryz.ntmps14
    go_wp2_with (go_at_call 39; refine (checkMonths_yes m _ _ _ _ (by omega) (by omega) (by simp)).mono ?_; rintro e w1 ⟨rfl, rfl⟩)
    refine (hvalid_yes _ _ (by omega) (by omega)).mono ?_
    rintro e w1 ⟨rfl, rfl⟩
    go_wp2_with fail
    refine (hvalid_no _ _ h3).mono ?_
    rintro e w1 ⟨rfl, rfl⟩
    go_wp2
    go_ret2
    exact ⟨ret_bi hr.out, (Below.refl _ _).alloc (Nat.le_refl _) _⟩
  by_cases h4 : c < a
  · have hr := Lib.hid (show longRes a c m = (false, 8) by unfold longRes; rw [if_neg h1, if_neg (by omega), if_pos h4])
    go_enter Tryz.func14, Tryz.ntmps14
    go_wp2_with (first | (go_at_call 39; refine (checkMonths_yes m _ _ _ _ (by omega) (by omega) (by simp)).mono ?_; rintro e w1 ⟨rfl, rfl⟩) | (go_at_call 40; refine (hvalid_yes _ _ (by omega) (by omega)).mono ?_; rintro e w1 ⟨rfl, rfl⟩))
    go_ret2
    exact ⟨ret_bi hr.out, (Below.refl _ _).alloc (Nat.le_refl _) _⟩
  have hr := Lib.hid (show longRes a c m = (isLong a c m, 0) by unfold longRes; rw [if_neg h1, if_neg (by omega), if_neg h4])
  go_enter Tryz.func14, Tryz.ntmps14
  go_wp2_with (first | (go_at_call 39; refine (checkMonths_yes m _ _ _ _ (by omega) (by omega) (by simp)).mono ?_; rintro e w1 ⟨rfl, rfl⟩) | (go_at_call 40; refine (hvalid_yes _ _ (by omega) (by omega)).mono ?_; rintro e w1 ⟨rfl, rfl⟩))
  refine (long_any _ _ _ _).mono ?_
  rintro e w1 ⟨rfl, hb1⟩
  go_wp2
  go_ret2
  exact ⟨ret_bi hr.out, ((Below.refl _ _).alloc (Nat.le_refl _) _).trans (hb1.mono (by simp))⟩

theorem Turns_any (a m : Int) (w : World) :
    Calls Tryz.prog 36 #[.int .i64 a, .int .i64 m] w fun e w' => e = .returned (.tuple #[.int .i64 (turnsRes a m).1, .int .i64 (turnsRes a m).2]) ∧ Below w.heap.size w w' := by
  by_cases h1 : m < 0 ∨ 120 < m
  · have hr := Lib.hid (show turnsRes a m = (0, 2) by unfold turnsRes; rw [if_pos h1])
    go_enter Tryz.func36, Tryz.ntmps36
    go_wp2_with (go_at_call 39; refine (checkMonths_no m _ _ _ _ h1 (by simp)).mono ?_; rintro e w1 ⟨rfl, rfl⟩)
    go_ret2
    exact ⟨ret_ii hr.out, (Below.refl _ _).alloc (Nat.le_refl _) _⟩
  by_cases h2 : a < -25567 ∨ 84005 < a
  · have hr := Lib.hid (show turnsRes a m = (0, 13) by unfold turnsRes; rw [if_neg h1, if_pos (.inl h2)])
    have H := Lib.hid (fun W => add_any a m W)
    generalize (Cal.add a m).1 = x at *
    generalize (Cal.add a m).2 = y at *
    go_enter Tryz.func36, Tryz.ntmps36
    go_wp2_with (first | (go_at_call 39; refine (checkMonths_yes m _ _ _ _ (by omega) (by omega) (by simp)).mono ?_; rintro e w1 ⟨rfl, rfl⟩) | (go_at_call 74; refine (H.out _).mono ?_; rintro e w1 ⟨rfl, hb1⟩) | (go_at_call 40; refine (hvalid_no _ _ h2).mono ?_; rintro e w1 ⟨rfl, rfl⟩))
    go_ret2
    exact ⟨ret_ii hr.out, ((Below.refl _ _).alloc (Nat.le_refl _) _).trans (hb1.mono (by simp))⟩
  have H := Lib.hid (fun W => add_any a m W)
  by_cases h3 : (Cal.add a m).2 = 0
  · by_cases h4 : (Cal.add a m).1 = 84005
    · have hr := Lib.hid (show turnsRes a m = (0, 13) by unfold turnsRes; rw [if_neg h1, if_pos (.inr (.inr h4))])
      rw [h3, h4] at H
      clear h3 h4
      go_enter Tryz.func36, Tryz.ntmps36
      go_wp2_with (first | (go_at_call 39; refine (checkMonths_yes m _ _ _ _ (by omega) (by omega) (by simp)).mono ?_; rintro e w1 ⟨rfl, rfl⟩) | (go_at_call 74; refine (H.out _).mono ?_; rintro e w1 ⟨rfl, hb1⟩) | (go_at_call 40; refine (hvalid_yes _ _ (by omega) (by omega)).mono ?_; rintro e w1 ⟨rfl, rfl⟩))
      go_ret2
      exact ⟨ret_ii hr.out, ((Below.refl _ _).alloc (Nat.le_refl _) _).trans (hb1.mono (by simp))⟩
    · have hr := Lib.hid (show turnsRes a m = ((Cal.add a m).1 + 1, 0) by unfold turnsRes; rw [if_neg h1, if_neg (by omega)])
      have hcs := Cal.add_cases a m
      have hbd : -25567 ≤ (Cal.add a m).1 ∧ (Cal.add a m).1 ≤ 84005 := by
        rcases hcs with h | h | h
        · rw [h]; decide
        · rw [h]; decide
        · exact h.2
      obtain ⟨hb1, hb2⟩ := hbd
      rw [h3] at H
      have h4' : ((Cal.add a m).1 == 84005) = false := by simpa using h4
      generalize (Cal.add a m).1 = x at *
      clear h3 h4 hcs
      go_enter Tryz.func36, Tryz.ntmps36
      go_wp2_with (first | (go_at_call 39; refine (checkMonths_yes m _ _ _ _ (by omega) (by omega) (by simp)).mono ?_; rintro e w1 ⟨rfl, rfl⟩) | (go_at_call 74; refine (H.out _).mono ?_; rintro e w1 ⟨rfl, hb1⟩) | (go_at_call 40; refine (hvalid_yes _ _ (by omega) (by omega)).mono ?_; rintro e w1 ⟨rfl, rfl⟩))
      go_ret2
      exact ⟨ret_ii hr.out, ((Below.refl _ _).alloc (Nat.le_refl _) _).trans (hb1.mono (by simp))⟩
  · have hr := Lib.hid (show turnsRes a m = (0, 13) by unfold turnsRes; rw [if_neg h1, if_pos (.inr (.inl h3))])
    have h3' : ((Cal.add a m).2 != 0) = true := by simpa using h3
    generalize (Cal.add a m).1 = x at *
    generalize (Cal.add a m).2 = y at *
    clear h3
    go_enter Tryz.func36, Tryz.ntmps36
    go_wp2_with (first | (go_at_call 39; refine (checkMonths_yes m _ _ _ _ (by omega) (by omega) (by simp)).mono ?_; rintro e w1 ⟨rfl, rfl⟩) | (go_at_call 74; refine (H.out _).mono ?_; rintro e w1 ⟨rfl, hb1⟩) | (go_at_call 40; refine (hvalid_yes _ _ (by omega) (by omega)).mono ?_; rintro e w1 ⟨rfl, rfl⟩))
    go_ret2
    exact ⟨ret_ii hr.out, ((Below.refl _ _).alloc (Nat.le_refl _) _).trans (hb1.mono (by simp))⟩

/- the reference -/
theorem count_yes (m : Int) (w : World) (h0 : 0 ≤ m) (h1 : m ≤ 120) :
    Calls Tryz.prog 48 #[.int .i64 m] w fun e w' => e = .returned (.bool true) ∧ w = w' := by
  go_enter Tryz.func48, Tryz.ntmps48
  go_wp2
  go_ret
  exact ⟨ret_bool (by simp), rfl⟩
theorem count_no (m : Int) (w : World) (h : m < 0 ∨ 120 < m) :
    Calls Tryz.prog 48 #[.int .i64 m] w fun e w' => e = .returned (.bool false) ∧ w = w' := by
  rcases h with h | h
  all_goals
    go_enter Tryz.func48, Tryz.ntmps48
    go_wp2
    go_ret
    exact ⟨ret_bool (by simp; try omega), rfl⟩
theorem rday_yes (d : Int) (w : World) (h0 : -25567 ≤ d) (h1 : d ≤ 84005) :
    Calls Tryz.prog 49 #[.int .i64 d] w fun e w' => e = .returned (.bool true) ∧ w = w' := by
  go_enter Tryz.func49, Tryz.ntmps49
  go_wp2
  go_ret
  exact ⟨ret_bool (by simp), rfl⟩
theorem rday_no (d : Int) (w : World) (h : d < -25567 ∨ 84005 < d) :
    Calls Tryz.prog 49 #[.int .i64 d] w fun e w' => e = .returned (.bool false) ∧ w = w' := by
  rcases h with h | h
  all_goals
    go_enter Tryz.func49, Tryz.ntmps49
    go_wp2
    go_ret
    exact ⟨ret_bool (by simp; try omega), rfl⟩
theorem Is_any (a c m : Int) (w : World) :
    Calls Tryz.prog 50 #[.int .i64 a, .int .i64 c, .int .i64 m] w fun e w' => e = .returned (.bool (isLong a c m)) ∧ w = w' := by
  have hd := Lib.hid (show isLong a c m = ((Cal.add a m).2 == 0 && decide ((Cal.add a m).1 < c)) from rfl)
  have H := Lib.hid (fun W => Ref06.add_any a m W)
  generalize (Cal.add a m).1 = x at *
  generalize (Cal.add a m).2 = y at *
  by_cases hy : y = 0
  · subst hy
    go_enter Tryz.func50, Tryz.ntmps50
    go_wp2_with (go_at_call 90; refine (H.out _).mono ?_; rintro e w1 ⟨rfl, rfl⟩)
    go_ret
    exact ⟨ret_bool (by rw [hd.out]; simp), rfl⟩
  · have hy' : (y == 0) = false := by simpa using hy
    clear hy
    go_enter Tryz.func50, Tryz.ntmps50
    go_wp2_with (go_at_call 90; refine (H.out _).mono ?_; rintro e w1 ⟨rfl, rfl⟩)
    go_ret
    exact ⟨ret_bool (by rw [hd.out, hy']; simp), rfl⟩

theorem day_any (y m d : Int) (w : World) (h : Cal.Valid y m d) :
    Calls Tryz.prog 37 #[.int .i64 y, .int .i64 m, .int .i64 d] w fun e w' => e = .returned (.int .i64 (Cal.num y m d - 25567)) ∧ Below w.heap.size w w' := by
  have H := Lib.hid (fun W => of_yes y m d W h)
  clear h
  go_enter Tryz.func37, Tryz.ntmps37
  go_wp2_with (go_at_call 75; refine (H.out _).mono ?_; rintro e w1 ⟨rfl, hb1⟩)
  go_ret
  exact ⟨rfl, hb1⟩
end Go.Proofs.YthlpfefckhdpiaaGreatDoor.Dt
