/- Plain facts on the civil calendar from 1900 on: leap years, lengths of months, numbers of days; a date is determined by its number. No program in sight. -/
import Derived.Lib.Hide
namespace Go.Proofs.YthlpfefckhdpiaaGreatDoor.Cal

def leap (y : Int) : Bool := (y % 4 == 0 && y % 100 != 0) || y % 400 == 0
def lp (y : Int) : Int := if leap y = true then 1 else 0
def dim (y m : Int) : Int := if m = 2 then 28 + lp y else if m = 4 ∨ m = 6 ∨ m = 9 ∨ m = 11 then 30 else 31
/-- days from 1900-01-01 to the beginning of year y -/
def dby (y : Int) : Int := 365 * (y - 1900) + ((y - 1) / 4 - (y - 1) / 100 + (y - 1) / 400) - 460
/-- days of a year before month m -/
def cum (y m : Int) : Int :=
  if m = 1 then 0 else if m = 2 then 31 else if m = 3 then 59 + lp y else if m = 4 then 90 + lp y else if m = 5 then 120 + lp y
  else if m = 6 then 151 + lp y else if m = 7 then 181 + lp y else if m = 8 then 212 + lp y else if m = 9 then 243 + lp y
  else if m = 10 then 273 + lp y else if m = 11 then 304 + lp y else if m = 12 then 334 + lp y else 365 + lp y
def num (y m d : Int) : Int := dby y + cum y m + d - 1
def Valid (y m d : Int) : Prop := 1900 ≤ y ∧ y ≤ 2199 ∧ 1 ≤ m ∧ m ≤ 12 ∧ 1 ≤ d ∧ d ≤ dim y m

theorem lp_01 (y : Int) : 0 ≤ lp y ∧ lp y ≤ 1 := by unfold lp; split <;> omega
theorem leap_iff (y : Int) : leap y = true ↔ (y % 4 = 0 ∧ y % 100 ≠ 0) ∨ y % 400 = 0 := by
  unfold leap; simp
theorem dby_succ (y : Int) : dby (y + 1) = dby y + 365 + lp y := by
  unfold dby lp
  by_cases h : leap y = true
  · rw [if_pos h]; rw [leap_iff] at h; omega
  · rw [if_neg h]; rw [leap_iff] at h; omega
theorem dby_mono (a b : Int) (h : a ≤ b) : dby a ≤ dby b := by unfold dby; omega
theorem dby_bd (a : Int) (h0 : 1900 ≤ a) (h : a ≤ 2200) : 0 ≤ dby a ∧ dby a ≤ 109573 := by unfold dby; omega
theorem dby_1900 : dby 1900 = 0 := by decide
theorem dby_2200 : dby 2200 = 109573 := by decide
/-- the first guess of a year is not too great -/
theorem dby_guess (n : Int) (h : 0 ≤ n) : dby (1900 + n / 366) ≤ n := by unfold dby; omega
theorem dim_bd (y m : Int) : 28 ≤ dim y m ∧ dim y m ≤ 31 := by
  have := lp_01 y
  unfold dim; split
  · omega
  · split <;> omega
theorem months {P : Int → Prop} (m : Int) (h1 : 1 ≤ m) (h2 : m ≤ 12) (p1 : P 1) (p2 : P 2) (p3 : P 3) (p4 : P 4) (p5 : P 5) (p6 : P 6) (p7 : P 7) (p8 : P 8) (p9 : P 9) (p10 : P 10) (p11 : P 11) (p12 : P 12) : P m := by
  have : m = 1 ∨ m = 2 ∨ m = 3 ∨ m = 4 ∨ m = 5 ∨ m = 6 ∨ m = 7 ∨ m = 8 ∨ m = 9 ∨ m = 10 ∨ m = 11 ∨ m = 12 := by omega
  rcases this with h | h | h | h | h | h | h | h | h | h | h | h <;> subst h <;> assumption
theorem cum_succ (y m : Int) (h1 : 1 ≤ m) (h2 : m ≤ 12) : cum y (m + 1) = cum y m + dim y m := by
  refine months (P := fun m => cum y (m + 1) = cum y m + dim y m) m h1 h2 ?_ ?_ ?_ ?_ ?_ ?_ ?_ ?_ ?_ ?_ ?_ ?_ <;> simp [cum, dim] <;> omega
theorem cum_1 (y : Int) : cum y 1 = 0 := rfl
theorem cum_13 (y : Int) : cum y 13 = 365 + lp y := rfl
theorem cum_mono_nat (y a : Int) (k : Nat) (h1 : 1 ≤ a) (h2 : a + k ≤ 13) : cum y a ≤ cum y (a + k) := by
  induction k with
  | zero => simp
  | succ k ih =>
    have i := ih (by omega)
    have s := cum_succ y (a + k) (by omega) (by omega)
    have d := dim_bd y (a + k)
    have e : a + ((k + 1 : Nat) : Int) = a + k + 1 := by omega
    rw [e, s]; omega
theorem cum_mono (y a b : Int) (h1 : 1 ≤ a) (h : a ≤ b) (h2 : b ≤ 13) : cum y a ≤ cum y b := by
  have := cum_mono_nat y a (b - a).toNat h1 (by omega)
  rw [show a + ((b - a).toNat : Int) = b by omega] at this
  exact this
theorem cum_bd (y m : Int) (h1 : 1 ≤ m) (h2 : m ≤ 13) : 0 ≤ cum y m ∧ cum y m ≤ 366 := by
  have a := cum_mono y 1 m (by omega) h1 h2
  have b := cum_mono y m 13 h1 h2 (by omega)
  have := lp_01 y
  rw [cum_1] at a; rw [cum_13] at b; omega
theorem num_bd {y m d : Int} (h : Valid y m d) : dby y ≤ num y m d ∧ num y m d < dby (y + 1) ∧ cum y m ≤ num y m d - dby y ∧ num y m d - dby y < cum y (m + 1) := by
  obtain ⟨h1, h2, h3, h4, h5, h6⟩ := h
  have a := cum_succ y m h3 h4
  have b := cum_mono y (m + 1) 13 (by omega) (by omega) (by omega)
  have c := cum_bd y m h3 (by omega)
  rw [cum_13] at b
  rw [dby_succ]
  unfold num; omega
theorem num_range {y m d : Int} (h : Valid y m d) : 0 ≤ num y m d ∧ num y m d ≤ 109572 := by
  have a := num_bd h
  obtain ⟨h1, h2, h3, h4, h5, h6⟩ := h
  have b := dby_bd y h1 (by omega)
  have c := dby_mono (y + 1) 2200 (by omega)
  rw [dby_2200] at c
  omega
theorem num_inj {y m d y' m' d' : Int} (h : Valid y m d) (h' : Valid y' m' d') (e : num y m d = num y' m' d') : y = y' ∧ m = m' ∧ d = d' := by
  have a := num_bd h
  have b := num_bd h'
  have ey : y = y' := by
    rcases Int.lt_trichotomy y y' with g | g | g
    · have := dby_mono (y + 1) y' (by omega); omega
    · exact g
    · have := dby_mono (y' + 1) y (by omega); omega
  subst ey
  obtain ⟨h1, h2, h3, h4, h5, h6⟩ := h
  obtain ⟨h1', h2', h3', h4', h5', h6'⟩ := h'
  have em : m = m' := by
    rcases Int.lt_trichotomy m m' with g | g | g
    · have := cum_mono y (m + 1) m' (by omega) (by omega) (by omega); omega
    · exact g
    · have := cum_mono y (m' + 1) m (by omega) (by omega) (by omega); omega
  subst em
  refine ⟨rfl, rfl, ?_⟩
  unfold num at e; omega
/-- whether (y, m, d) is the date of the day n (counted from 1900-01-01) -/
def IsDate (n : Int) (p : Int × Int × Int) : Prop := Valid p.1 p.2.1 p.2.2 ∧ num p.1 p.2.1 p.2.2 = n
noncomputable def civ (n : Int) : Int × Int × Int := Classical.epsilon (IsDate n)
theorem civ_of {n y m d : Int} (h : Valid y m d) (e : num y m d = n) : civ n = (y, m, d) := by
  have hs : IsDate n (civ n) := Classical.epsilon_spec (p := IsDate n) ⟨(y, m, d), h, e⟩
  obtain ⟨h1, h2⟩ := hs
  obtain ⟨a, b, c⟩ := num_inj h1 h (by rw [h2, e])
  rw [← a, ← b, ← c]

theorem exists_year_nat (n : Int) (h0 : 0 ≤ n) (k : Nat) (hk : n < dby (1900 + k)) : ∃ y : Int, 1900 ≤ y ∧ y < 1900 + k ∧ dby y ≤ n ∧ n < dby (y + 1) := by
  induction k with
  | zero => simp only [Int.natCast_zero, Int.add_zero] at hk; rw [dby_1900] at hk; omega
  | succ k ih =>
    by_cases h : n < dby (1900 + k)
    · obtain ⟨y, a, b, c, d⟩ := ih h
      exact ⟨y, a, by omega, c, d⟩
    · exact ⟨1900 + k, by omega, by omega, by omega, by rw [show (1900 + (k : Int) + 1) = 1900 + ((k + 1 : Nat) : Int) by omega]; exact hk⟩
theorem exists_month_nat (y r : Int) (h0 : 0 ≤ r) (k : Nat) (h12 : k ≤ 12) (hk : r < cum y (1 + k)) : ∃ m : Int, 1 ≤ m ∧ m < 1 + k ∧ cum y m ≤ r ∧ r < cum y (m + 1) := by
  induction k with
  | zero => simp only [Int.natCast_zero, Int.add_zero] at hk; rw [cum_1] at hk; omega
  | succ k ih =>
    by_cases h : r < cum y (1 + k)
    · obtain ⟨m, a, b, c, d⟩ := ih (by omega) h
      exact ⟨m, a, by omega, c, d⟩
    · exact ⟨1 + k, by omega, by omega, by omega, by rw [show (1 + (k : Int) + 1) = 1 + ((k + 1 : Nat) : Int) by omega]; exact hk⟩
theorem civ_spec {n : Int} (h0 : 0 ≤ n) (h1 : n ≤ 109572) : Valid (civ n).1 (civ n).2.1 (civ n).2.2 ∧ num (civ n).1 (civ n).2.1 (civ n).2.2 = n := by
  obtain ⟨y, a, b, c, d⟩ := exists_year_nat n h0 300 (by rw [show (1900 : Int) + ((300 : Nat) : Int) = 2200 by omega, dby_2200]; omega)
  have e := dby_succ y
  have f := cum_13 y
  obtain ⟨m, a', b', c', d'⟩ := exists_month_nat y (n - dby y) (by omega) 12 (by omega) (by rw [show (1 : Int) + ((12 : Nat) : Int) = 13 by omega, f]; omega)
  have g := cum_succ y m a' (by omega)
  have hv : Valid y m (n - dby y - cum y m + 1) := ⟨a, by omega, a', by omega, by omega, by omega⟩
  have hn : num y m (n - dby y - cum y m + 1) = n := by unfold num; omega
  rw [civ_of hv hn]; exact ⟨hv, hn⟩

/-- the day k months behind day n (both counted from 1900-01-01) -/
noncomputable def months12 (n k : Int) : Int := 12 * (civ n).1 + (civ n).2.1 - 1 + k
noncomputable def shiftYear (n k : Int) : Int := months12 n k / 12
noncomputable def shiftMonth (n k : Int) : Int := months12 n k % 12 + 1
noncomputable def shiftDay (n k : Int) : Int := min (civ n).2.2 (dim (shiftYear n k) (shiftMonth n k))
noncomputable def shift (n k : Int) : Int := num (shiftYear n k) (shiftMonth n k) (shiftDay n k)
theorem shift_valid {n k : Int} (h0 : 0 ≤ n) (h1 : n ≤ 109572) (hy : 1900 ≤ shiftYear n k) (hy' : shiftYear n k ≤ 2199) : Valid (shiftYear n k) (shiftMonth n k) (shiftDay n k) := by
  obtain ⟨⟨a1, a2, a3, a4, a5, a6⟩, _⟩ := civ_spec h0 h1
  have := dim_bd (shiftYear n k) (shiftMonth n k)
  have hm : 1 ≤ shiftMonth n k ∧ shiftMonth n k ≤ 12 := by unfold shiftMonth; omega
  unfold shiftDay
  exact ⟨hy, hy', hm.1, hm.2, by omega, by omega⟩
/-- what AddMonths returns: a day (counted from 1970-01-01) and an error number -/
noncomputable def add (d n : Int) : Int × Int :=
  if d < -25567 ∨ 84005 < d then (0, 13) else if n < -4800 ∨ 4800 < n then (0, 2)
  else if shiftYear (d + 25567) n < 1900 ∨ 2199 < shiftYear (d + 25567) n then (0, 13) else (shift (d + 25567) n - 25567, 0)
theorem add_day {d n : Int} (h : d < -25567 ∨ 84005 < d) : add d n = (0, 13) := by unfold add; rw [if_pos h]
theorem add_range {d n : Int} (h1 : -25567 ≤ d) (h2 : d ≤ 84005) (h : n < -4800 ∨ 4800 < n) : add d n = (0, 2) := by
  unfold add; rw [if_neg (by omega), if_pos h]
theorem add_year {d n : Int} (h1 : -25567 ≤ d) (h2 : d ≤ 84005) (h3 : -4800 ≤ n) (h4 : n ≤ 4800) (h : shiftYear (d + 25567) n < 1900 ∨ 2199 < shiftYear (d + 25567) n) : add d n = (0, 13) := by
  unfold add; rw [if_neg (by omega), if_neg (by omega), if_pos h]
theorem add_ok {d n : Int} (h1 : -25567 ≤ d) (h2 : d ≤ 84005) (h3 : -4800 ≤ n) (h4 : n ≤ 4800) (h5 : 1900 ≤ shiftYear (d + 25567) n) (h6 : shiftYear (d + 25567) n ≤ 2199) :
    add d n = (shift (d + 25567) n - 25567, 0) := by
  unfold add; rw [if_neg (by omega), if_neg (by omega), if_neg (by omega)]
theorem add_cases (d n : Int) : add d n = (0, 13) ∨ add d n = (0, 2) ∨ ((add d n).2 = 0 ∧ -25567 ≤ (add d n).1 ∧ (add d n).1 ≤ 84005) := by
  by_cases h1 : d < -25567 ∨ 84005 < d
  · exact .inl (add_day h1)
  by_cases h2 : n < -4800 ∨ 4800 < n
  · exact .inr (.inl (add_range (by omega) (by omega) h2))
  by_cases h3 : shiftYear (d + 25567) n < 1900 ∨ 2199 < shiftYear (d + 25567) n
  · exact .inl (add_year (by omega) (by omega) (by omega) (by omega) h3)
  · have := num_range (shift_valid (n := d + 25567) (k := n) (by omega) (by omega) (by omega) (by omega))
    rw [add_ok (by omega) (by omega) (by omega) (by omega) (by omega) (by omega)]
    refine .inr (.inr ⟨rfl, ?_, ?_⟩) <;> (show _ ≤ _; unfold shift; omega)

theorem shift_zero {n : Int} (h0 : 0 ≤ n) (h1 : n ≤ 109572) : shiftYear n 0 = (civ n).1 ∧ shift n 0 = n := by
  obtain ⟨⟨a1, a2, a3, a4, a5, a6⟩, e⟩ := civ_spec h0 h1
  have ey : shiftYear n 0 = (civ n).1 := by unfold shiftYear months12; omega
  have em : shiftMonth n 0 = (civ n).2.1 := by unfold shiftMonth months12; omega
  have ed : shiftDay n 0 = (civ n).2.2 := by unfold shiftDay; rw [ey, em]; omega
  refine ⟨ey, ?_⟩
  unfold shift; rw [ey, em, ed]; exact e
theorem shift_mono {n k k' : Int} (h0 : 0 ≤ n) (h1 : n ≤ 109572) (hk : k ≤ k') (hy : 1900 ≤ shiftYear n k) (hy' : shiftYear n k' ≤ 2199) : shiftYear n k ≤ shiftYear n k' ∧ shift n k ≤ shift n k' := by
  have le : shiftYear n k ≤ shiftYear n k' := by unfold shiftYear months12; omega
  refine ⟨le, ?_⟩
  rcases Int.lt_or_le k k' with hlt | hge
  · have v := shift_valid (n := n) (k := k) h0 h1 hy (by omega)
    have v' := shift_valid (n := n) (k := k') h0 h1 (by omega) hy'
    have b := num_bd v
    have b' := num_bd v'
    have e : months12 n k' = months12 n k + (k' - k) := by unfold months12; omega
    have m1 : shiftMonth n k = months12 n k % 12 + 1 := rfl
    have m2 : shiftMonth n k' = months12 n k' % 12 + 1 := rfl
    have y1 : shiftYear n k = months12 n k / 12 := rfl
    have y2 : shiftYear n k' = months12 n k' / 12 := rfl
    rcases Int.lt_or_le (shiftYear n k) (shiftYear n k') with hl | hg
    · have := dby_mono (shiftYear n k + 1) (shiftYear n k') (by omega)
      unfold shift; omega
    · have ee : shiftYear n k' = shiftYear n k := by omega
      have c := cum_mono (shiftYear n k) (shiftMonth n k + 1) (shiftMonth n k') (by omega) (by omega) (by omega)
      unfold shift
      rw [ee] at b' ⊢
      omega
  · obtain rfl : k = k' := by omega
    exact Int.le_refl _

end Go.Proofs.YthlpfefckhdpiaaGreatDoor.Cal
