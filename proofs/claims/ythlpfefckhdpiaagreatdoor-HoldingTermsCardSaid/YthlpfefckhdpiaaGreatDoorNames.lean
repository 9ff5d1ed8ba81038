/- Names and lot ids: plain facts, and the walks of instrument.Name and trancheref10.Name. -/
import Derived.Test.YthlpfefckhdpiaaGreatDoorFormat
import Derived.Test.YthlpfefckhdpiaaGreatDoorInt
namespace Go.Proofs.YthlpfefckhdpiaaGreatDoor
open Go.RowKit Num
attribute [local go_sem] str_append str_extract str_size

def nameC (c : UInt8) : Bool := (decide (97 ≤ c.toNat) && decide (c.toNat ≤ 122)) || (decide (48 ≤ c.toNat) && decide (c.toNat ≤ 57)) || decide (c.toNat = 95)
def isName (l : List UInt8) : Bool := decide (1 ≤ l.length) && decide (l.length ≤ 16) && l.all nameC
theorem isName_short {l : List UInt8} (h : l.length = 0 ∨ 16 < l.length) : isName l = false := by
  unfold isName
  rcases h with h | h
  · rw [show decide (1 ≤ l.length) = false by rw [h]; rfl]; rfl
  · rw [show decide (l.length ≤ 16) = false by simp; omega]; simp
theorem isName_all {l : List UInt8} (h1 : 1 ≤ l.length) (h2 : l.length ≤ 16) : isName l = l.all nameC := by
  unfold isName; simp [h1, h2]
theorem all_false {p : UInt8 → Bool} {l : List UInt8} {k : Nat} (hk : k < l.length) (h : p (l.getD k 0) = false) : l.all p = false := by
  rw [List.all_eq_false]
  refine ⟨l.getD k 0, ?_, by rw [h]; simp⟩
  rw [List.getD_eq_getElem?_getD, List.getElem?_eq_getElem hk]; exact List.getElem_mem hk
theorem all_true {p : UInt8 → Bool} {l : List UInt8} (h : ∀ k, k < l.length → p (l.getD k 0) = true) : l.all p = true := by
  rw [List.all_eq_true]
  intro x hx
  obtain ⟨k, hk, rfl⟩ := List.getElem_of_mem hx
  have := h k hk
  rwa [List.getD_eq_getElem?_getD, List.getElem?_eq_getElem hk] at this
theorem u8_lt (c : UInt8) : c.toNat < 256 := c.toNat_lt

set_option maxHeartbeats 1000000 in
set_option maxRecDepth 100000 in
theorem name_some (l : List UInt8) (w : World) (h1 : 1 ≤ l.length) (h2 : l.length ≤ 16) :
    Calls Tryz.prog 101 #[.string ⟨l.toArray⟩] w fun e w' => e = .returned (.bool (l.all nameC)) ∧ Below w.heap.size w w' := by
  have HC := Lib.hid (fun k (hk : k < l.length) => Lib.bytesWorld_cell w 5 ⟨l.toArray⟩ k (by rw [str_size]; exact hk))
  have HB := Lib.hid (Lib.bytesWorld_below w 5 ⟨l.toArray⟩)
  have hcv := Lib.run_convert_string_bytes (P := Tryz.prog) w 9 118 5 ⟨l.toArray⟩ Tryz.underlying9 Tryz.underlying118 Tryz.underlying5
  rw [str_size] at hcv
  generalize Lib.bytesWorld w 5 ⟨l.toArray⟩ = w1 at *
  generalize grownCap w l.length 0 5 = cp at *
  have b0 : ((l.length : Int) == 0) = false := by simp; intro h; rw [h] at h1; simp at h1
  have b1 : ¬ (16 : Int) < l.length := by omega
  have hne : l ≠ [] := by intro h; rw [h] at h1; simp at h1
  have HNE := Lib.hid hne
  clear hne
  go_enter Tryz.func101, Tryz.ntmps101
  go_wp2
  go_loop [4, 16] (fun _ i => ∃ k : Nat, k ≤ l.length ∧ i = .int .i64 (k : Int) ∧ Hid (∀ j, j < k → nameC (l.getD j 0) = true)) (fun _ i => l.length - (intOf i).toNat)
  case atStart => exact ⟨0, Nat.zero_le _, rfl, fun j hj => absurd hj (Nat.not_lt_zero j)⟩
  case round =>
    obtain ⟨k, hk, rfl, hp⟩ := hrel
    by_cases hlt : k < l.length
    · have hck := HC.out k hlt
      have hb := u8_lt (l.getD k 0)
      have hfal := Lib.hid (fun h => all_false (p := nameC) hlt h)
      have hdef := Lib.hid (show nameC (l.getD k 0) = ((decide (97 ≤ (l.getD k 0).toNat) && decide ((l.getD k 0).toNat ≤ 122)) || (decide (48 ≤ (l.getD k 0).toNat) && decide ((l.getD k 0).toNat ≤ 57)) || decide ((l.getD k 0).toNat = 95)) from rfl)
      have hstep := Lib.hid (fun (h : nameC (l.getD k 0) = true) j (hj : j < k + 1) => show nameC (l.getD j 0) = true by
        rcases Nat.lt_or_ge j k with g | g
        · exact hp.out j g
        · obtain rfl : j = k := by omega
          exact h)
      change w1.cell? _ = some (.int .u8 ((l.getD k 0).toNat : Int)) at hck
      generalize nameC (l.getD k 0) = nb at *
      generalize (l.getD k 0).toNat = c at *
      have hcs : (97 ≤ c ∧ c ≤ 122) ∨ (48 ≤ c ∧ c ≤ 57) ∨ c = 95 ∨ c < 48 ∨ (57 < c ∧ c < 97 ∧ c ≠ 95) ∨ 122 < c := by omega
      rcases hcs with ⟨g1, g2⟩ | ⟨g1, g2⟩ | g1 | g1 | ⟨g1, g2, g3⟩ | g1
      · have n1 : ¬ (c : Int) < 97 := by omega
        have n2 : ¬ (122 : Int) < c := by omega
        have e1 : nb = true := by rw [hdef.out]; simp <;> omega
        have hs2 := Lib.hid (hstep.out e1)
        clear hstep hfal hdef e1
        go_wp2
        go_round
        case rel => exact ⟨k + 1, by omega, by go_num, hs2⟩
        case measure => simp [intOf]; omega
      · have n1 : (c : Int) < 97 := by omega
        have n2 : ¬ (c : Int) < 48 := by omega
        have n3 : ¬ (57 : Int) < c := by omega
        have e1 : nb = true := by rw [hdef.out]; simp <;> omega
        have hs2 := Lib.hid (hstep.out e1)
        clear hstep hfal hdef e1
        go_wp2
        go_round
        case rel => exact ⟨k + 1, by omega, by go_num, hs2⟩
        case measure => simp [intOf]; omega
      · subst g1
        have e1 : nb = true := by rw [hdef.out]; simp <;> omega
        have hs2 := Lib.hid (hstep.out e1)
        clear hstep hfal hdef e1
        go_wp2
        go_round
        case rel => exact ⟨k + 1, by omega, by go_num, hs2⟩
        case measure => simp [intOf]; omega
      · have n1 : (c : Int) < 97 := by omega
        have n2 : (c : Int) < 48 := by omega
        have n4 : ((c : Int) != 95) = true := by simp; omega
        have e1 : nb = false := by rw [hdef.out]; simp <;> omega
        have hs2 := Lib.hid (hfal.out e1)
        clear hstep hfal hdef e1
        go_wp2
        go_ret
        exact ⟨ret_bool hs2.out.symm, HB.out⟩
      · have n1 : (c : Int) < 97 := by omega
        have n2 : ¬ (c : Int) < 48 := by omega
        have n3 : (57 : Int) < c := by omega
        have n4 : ((c : Int) != 95) = true := by simp; omega
        have e1 : nb = false := by rw [hdef.out]; simp <;> omega
        have hs2 := Lib.hid (hfal.out e1)
        clear hstep hfal hdef e1
        go_wp2
        go_ret
        exact ⟨ret_bool hs2.out.symm, HB.out⟩
      · have n1 : ¬ (c : Int) < 97 := by omega
        have n2 : (122 : Int) < c := by omega
        have n3 : ¬ (c : Int) < 48 := by omega
        have n5 : (57 : Int) < c := by omega
        have n4 : ((c : Int) != 95) = true := by simp; omega
        have e1 : nb = false := by rw [hdef.out]; simp <;> omega
        have hs2 := Lib.hid (hfal.out e1)
        clear hstep hfal hdef e1
        go_wp2
        go_ret
        exact ⟨ret_bool hs2.out.symm, HB.out⟩
    · obtain rfl : k = l.length := by omega
      have hs2 := Lib.hid (all_true hp.out)
      go_wp2
      go_ret
      exact ⟨ret_bool hs2.out.symm, HB.out⟩

theorem Name_any (l : List UInt8) (w : World) (hl : l.length ≤ 9000000000000000000) :
    Calls Tryz.prog 101 #[.string ⟨l.toArray⟩] w fun e w' => e = .returned (.bool (isName l)) ∧ Below w.heap.size w w' := by
  by_cases h0 : l.length = 0
  · have e : l = [] := List.eq_nil_of_length_eq_zero h0
    subst e
    rw [isName_short (.inl rfl)]
    go_enter Tryz.func101, Tryz.ntmps101
    go_wp2
    go_ret
    exact ⟨rfl, Below.refl _ _⟩
  by_cases h1 : 16 < l.length
  · rw [isName_short (.inr h1)]
    have b0 : ((l.length : Int) == 0) = false := by simp; intro h; rw [h] at h0; simp at h0
    have b1 : (16 : Int) < l.length := by omega
    clear h0
    go_enter Tryz.func101, Tryz.ntmps101
    go_wp2
    go_ret
    exact ⟨rfl, Below.refl _ _⟩
  rw [isName_all (by omega) (by omega)]
  exact name_some l w (by omega) (by omega)

set_option maxHeartbeats 1000000 in
set_option maxRecDepth 100000 in
theorem RName_any (l : List UInt8) (w : World) (hl : l.length ≤ 9000000000000000000) :
    Calls Tryz.prog 70 #[.string ⟨l.toArray⟩] w fun e w' => e = .returned (.bool (isName l)) ∧ w = w' := by
  go_enter Tryz.func70, Tryz.ntmps70
  go_wp2
  go_loop [3, 4] (fun i _ => ∃ k : Nat, k ≤ l.length ∧ i = .int .i64 (k : Int) ∧ Hid (∀ j, j < k → nameC (l.getD j 0) = true)) (fun i _ => l.length - (intOf i).toNat)
  case atStart => exact ⟨0, Nat.zero_le _, rfl, fun j hj => absurd hj (Nat.not_lt_zero j)⟩
  case round =>
    obtain ⟨k, hk, rfl, hp⟩ := hrel
    by_cases hlt : k < l.length
    · have hsz : k < (⟨l.toArray⟩ : ByteArray).size := by rw [str_size]; exact hlt
      have hgk := Lib.hid (congrArg UInt8.toNat (str_get l k hsz))
      have hfal := Lib.hid (fun h => all_false (p := nameC) hlt h)
      have hstep := Lib.hid (fun (h : nameC (l.getD k 0) = true) j (hj : j < k + 1) => show nameC (l.getD j 0) = true by
        rcases Nat.lt_or_ge j k with g | g
        · exact hp.out j g
        · obtain rfl : j = k := by omega
          exact h)
      have hdef := Lib.hid (show nameC (l.getD k 0) = ((decide (97 ≤ (l.getD k 0).toNat) && decide ((l.getD k 0).toNat ≤ 122)) || (decide (48 ≤ (l.getD k 0).toNat) && decide ((l.getD k 0).toNat ≤ 57)) || decide ((l.getD k 0).toNat = 95)) from rfl)
      have hcs : (97 ≤ ((⟨l.toArray⟩ : ByteArray)[k]'hsz).toNat ∧ ((⟨l.toArray⟩ : ByteArray)[k]'hsz).toNat ≤ 122) ∨ (48 ≤ ((⟨l.toArray⟩ : ByteArray)[k]'hsz).toNat ∧ ((⟨l.toArray⟩ : ByteArray)[k]'hsz).toNat ≤ 57) ∨ ((⟨l.toArray⟩ : ByteArray)[k]'hsz).toNat = 95 ∨ ((⟨l.toArray⟩ : ByteArray)[k]'hsz).toNat < 48 ∨ (57 < ((⟨l.toArray⟩ : ByteArray)[k]'hsz).toNat ∧ ((⟨l.toArray⟩ : ByteArray)[k]'hsz).toNat < 97 ∧ ((⟨l.toArray⟩ : ByteArray)[k]'hsz).toNat ≠ 95) ∨ 122 < ((⟨l.toArray⟩ : ByteArray)[k]'hsz).toNat := by omega
      rcases hcs with ⟨g1, g2⟩ | ⟨g1, g2⟩ | g1 | g1 | ⟨g1, g2, g3⟩ | g1
      · have n1 : ¬ (((⟨l.toArray⟩ : ByteArray)[k]'hsz).toNat : Int) < 97 := by omega
        have n2 : ¬ (122 : Int) < ((⟨l.toArray⟩ : ByteArray)[k]'hsz).toNat := by omega
        have e1 : nameC (l.getD k 0) = true := by rw [hdef.out, ← hgk.out]; simp <;> omega
        have hs2 := Lib.hid (hstep.out e1)
        clear hstep hfal hdef e1 hgk
        go_wp2
        go_round
        case rel => exact ⟨k + 1, by omega, by go_num, hs2⟩
        case measure => simp [intOf]; omega
      · have n1 : (((⟨l.toArray⟩ : ByteArray)[k]'hsz).toNat : Int) < 97 := by omega
        have n2 : ¬ (((⟨l.toArray⟩ : ByteArray)[k]'hsz).toNat : Int) < 48 := by omega
        have n3 : ¬ (57 : Int) < ((⟨l.toArray⟩ : ByteArray)[k]'hsz).toNat := by omega
        have e1 : nameC (l.getD k 0) = true := by rw [hdef.out, ← hgk.out]; simp <;> omega
        have hs2 := Lib.hid (hstep.out e1)
        clear hstep hfal hdef e1 hgk
        go_wp2
        go_round
        case rel => exact ⟨k + 1, by omega, by go_num, hs2⟩
        case measure => simp [intOf]; omega
      · have n1 : (((⟨l.toArray⟩ : ByteArray)[k]'hsz).toNat : Int) < 97 := by omega
        have n2 : ¬ (((⟨l.toArray⟩ : ByteArray)[k]'hsz).toNat : Int) < 48 := by omega
        have n3 : (57 : Int) < ((⟨l.toArray⟩ : ByteArray)[k]'hsz).toNat := by omega
        have n4 : ((((⟨l.toArray⟩ : ByteArray)[k]'hsz).toNat : Int) != 95) = false := by simp; omega
        have e1 : nameC (l.getD k 0) = true := by rw [hdef.out, ← hgk.out]; simp <;> omega
        have hs2 := Lib.hid (hstep.out e1)
        clear hstep hfal hdef e1 hgk g1
        go_wp2
        go_round
        case rel => exact ⟨k + 1, by omega, by go_num, hs2⟩
        case measure => simp [intOf]; omega
      · have n1 : (((⟨l.toArray⟩ : ByteArray)[k]'hsz).toNat : Int) < 97 := by omega
        have n2 : (((⟨l.toArray⟩ : ByteArray)[k]'hsz).toNat : Int) < 48 := by omega
        have n4 : ((((⟨l.toArray⟩ : ByteArray)[k]'hsz).toNat : Int) != 95) = true := by simp; omega
        have e1 : nameC (l.getD k 0) = false := by rw [hdef.out, ← hgk.out]; simp <;> omega
        have hs2 := Lib.hid (hfal.out e1)
        clear hstep hfal hdef e1 hgk
        go_wp2
        go_ret
        exact ⟨ret_bool (by unfold isName; rw [hs2.out]; simp), rfl⟩
      · have n1 : (((⟨l.toArray⟩ : ByteArray)[k]'hsz).toNat : Int) < 97 := by omega
        have n2 : ¬ (((⟨l.toArray⟩ : ByteArray)[k]'hsz).toNat : Int) < 48 := by omega
        have n3 : (57 : Int) < ((⟨l.toArray⟩ : ByteArray)[k]'hsz).toNat := by omega
        have n4 : ((((⟨l.toArray⟩ : ByteArray)[k]'hsz).toNat : Int) != 95) = true := by simp; omega
        have e1 : nameC (l.getD k 0) = false := by rw [hdef.out, ← hgk.out]; simp <;> omega
        have hs2 := Lib.hid (hfal.out e1)
        clear hstep hfal hdef e1 hgk g3
        go_wp2
        go_ret
        exact ⟨ret_bool (by unfold isName; rw [hs2.out]; simp), rfl⟩
      · have n1 : ¬ (((⟨l.toArray⟩ : ByteArray)[k]'hsz).toNat : Int) < 97 := by omega
        have n2 : (122 : Int) < ((⟨l.toArray⟩ : ByteArray)[k]'hsz).toNat := by omega
        have n3 : ¬ (((⟨l.toArray⟩ : ByteArray)[k]'hsz).toNat : Int) < 48 := by omega
        have n5 : (57 : Int) < ((⟨l.toArray⟩ : ByteArray)[k]'hsz).toNat := by omega
        have n4 : ((((⟨l.toArray⟩ : ByteArray)[k]'hsz).toNat : Int) != 95) = true := by simp; omega
        have e1 : nameC (l.getD k 0) = false := by rw [hdef.out, ← hgk.out]; simp <;> omega
        have hs2 := Lib.hid (hfal.out e1)
        clear hstep hfal hdef e1 hgk
        go_wp2
        go_ret
        exact ⟨ret_bool (by unfold isName; rw [hs2.out]; simp), rfl⟩
    · obtain rfl : k = l.length := by omega
      have hs2 := Lib.hid (all_true hp.out)
      have hdd := Lib.hid (show isName l = (decide (1 ≤ l.length) && decide (l.length ≤ 16) && l.all nameC) from rfl)
      by_cases h1 : 1 ≤ l.length
      · by_cases h2 : l.length ≤ 16
        · have h3 : (1 : Int) ≤ l.length := by omega
          go_wp2
          go_ret
          exact ⟨ret_bool (by rw [hdd.out, hs2.out]; simp [h1, h2] <;> omega), rfl⟩
        · have h3 : (1 : Int) ≤ l.length := by omega
          have h4 : ¬ (l.length : Int) ≤ 16 := by omega
          go_wp2
          go_ret
          exact ⟨ret_bool (by rw [hdd.out, hs2.out]; simp [h1, h2] <;> omega), rfl⟩
      · have h3 : ¬ (1 : Int) ≤ l.length := by omega
        go_wp2
        go_ret
        exact ⟨ret_bool (by rw [hdd.out, hs2.out]; simp [h1] <;> omega), rfl⟩
end Go.Proofs.YthlpfefckhdpiaaGreatDoor
