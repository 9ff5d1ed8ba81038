/- Lot ids: plain facts and walks (lot.isId, disposal.isLot, and the references' Id and LotId). -/
import Derived.Test.YthlpfefckhdpiaaGreatDoorNames
import Derived.Test.YthlpfefckhdpiaaGreatDoorMag
import Derived.WideLaws
namespace Go.Proofs.YthlpfefckhdpiaaGreatDoor
open Go.RowKit Num
attribute [local go_sem] str_append str_extract str_size

def isNum (l : List UInt8) : Bool := decide (1 ≤ l.length) && decide (l.length ≤ 4) && l.all isDig && decide (l.head? ≠ some 48)
def isId (l : List UInt8) : Bool := isNum (Lib.cut l [47]).2.1 && isName (Lib.cut l [47]).1

theorem parse10 (l : List UInt8) (acc : Nat) (hd : l.all isDig = true) (hlt : acc * 10 ^ l.length + nat l < 1000000000000000000) : Lib.parseUint10 acc l = .ok (acc * 10 ^ l.length + nat l) := by
  induction l generalizing acc with
  | nil => simp [Lib.parseUint10, nat]
  | cons c r ih =>
    simp only [List.all_cons, Bool.and_eq_true] at hd
    have hc := (isDig_iff c).1 hd.1
    rw [nat_cons, List.length_cons, Nat.pow_succ] at hlt ⊢
    have e : acc * (10 ^ r.length * 10) + ((c.toNat - 48) * 10 ^ r.length + nat r) = (acc * 10 + (c.toNat - 48)) * 10 ^ r.length + nat r := by
      rw [Nat.add_mul, Nat.mul_assoc, Nat.mul_comm 10 (10 ^ r.length), Nat.add_assoc]
    rw [e] at hlt ⊢
    have hp : 1 ≤ 10 ^ r.length := Nat.one_le_pow _ _ (by decide)
    have hb : acc * 10 + (c.toNat - 48) ≤ (acc * 10 + (c.toNat - 48)) * 10 ^ r.length := Nat.le_mul_of_pos_right _ hp
    rw [Lib.parseUint10, if_pos hc, if_neg (by omega), if_neg (by omega)]
    exact ih _ hd.2 hlt
theorem atoi_digits {l : List UInt8} (hne : l ≠ []) (hl : l.length ≤ 4) (hd : l.all isDig = true) : Lib.atoiAll l = .ok (nat l : Int) := by
  cases l with
  | nil => exact absurd rfl hne
  | cons c r =>
    have hc := (isDig_iff c).1 (by simp at hd ⊢; exact hd.1)
    have hlt := nat_lt (c :: r) hd
    have h4 : 10 ^ (c :: r).length ≤ 10 ^ 4 := Nat.pow_le_pow_right (by decide) hl
    have e4 : (10 : Nat) ^ 4 = 10000 := by decide
    have hp := parse10 (c :: r) 0 hd (by omega)
    rw [Nat.zero_mul, Nat.zero_add] at hp
    simp only [Lib.atoiAll]
    rw [if_neg (by omega)]
    unfold Lib.parseMag
    rw [if_neg (by simp), hp]
    simp only
    rw [if_neg (by omega), if_neg (by omega), if_neg (by omega)]
theorem isNum_iff (l : List UInt8) : isNum l = true ↔ ∃ n : Int, Lib.atoiAll l = .ok n ∧ 1 ≤ n ∧ n ≤ 9999 ∧ Lib.itoa n = l := by
  constructor
  · intro h
    unfold isNum at h
    simp only [Bool.and_eq_true, decide_eq_true_eq] at h
    obtain ⟨⟨⟨h1, h2⟩, h3⟩, h4⟩ := h
    have hne : l ≠ [] := by intro e; rw [e] at h1; simp at h1
    have he := digits_eq l h3 h4 hne
    have hp := nat_pos_of l h3 h4 hne
    have hlt := nat_lt l h3
    have h5 : 10 ^ l.length ≤ 10 ^ 4 := Nat.pow_le_pow_right (by decide) h2
    have e4 : (10 : Nat) ^ 4 = 10000 := by decide
    refine ⟨nat l, atoi_digits hne h2 h3, by omega, by omega, ?_⟩
    unfold Lib.itoa
    rw [if_neg (by omega), Int.toNat_natCast, ← he]
  · rintro ⟨n, _, h1, h2, h3⟩
    unfold Lib.itoa at h3
    rw [if_neg (by omega)] at h3
    subst h3
    unfold isNum
    have hl := nDigits_le n.toNat 4 (by decide) (by have e4 : (10 : Nat) ^ 4 = 10000 := by decide
                                                    omega)
    have hp := Lib.nDigits_pos n.toNat
    rw [← Lib.decDigits_length] at hl hp
    simp only [Bool.and_eq_true, decide_eq_true_eq]
    exact ⟨⟨⟨hp, hl⟩, decDigits_dig _⟩, decDigits_head _ (by omega)⟩
theorem isNum_bad {l : List UInt8} (h : ∀ v, Lib.atoiAll l ≠ .ok v) : isNum l = false := by
  cases hn : isNum l with
  | false => rfl
  | true => obtain ⟨n, h1, _⟩ := (isNum_iff l).1 hn; exact absurd h1 (h n)
theorem isNum_ok {l : List UInt8} {v : Int} (h : Lib.atoiAll l = .ok v) : isNum l = (decide (1 ≤ v) && decide (v ≤ 9999) && (Lib.itoa v == l)) := by
  rw [Bool.eq_iff_iff, isNum_iff]
  simp only [Bool.and_eq_true, decide_eq_true_eq, beq_iff_eq]
  constructor
  · rintro ⟨n, h1, h2, h3, h4⟩
    rw [h] at h1
    injection h1 with h1
    subst h1
    exact ⟨⟨h2, h3⟩, h4⟩
  · rintro ⟨⟨h2, h3⟩, h4⟩
    exact ⟨v, h, h2, h3, h4⟩
theorem atoi_bd {l : List UInt8} {v : Int} (h : Lib.atoiAll l = .ok v) : -9223372036854775808 ≤ v ∧ v ≤ 9223372036854775807 := by
  cases l with
  | nil => simp [Lib.atoiAll] at h
  | cons c r =>
    simp only [Lib.atoiAll] at h
    split at h
    · cases h
    · cases h
    · rename_i u hu
      split at h
      · cases h
      · split at h
        · cases h
        · injection h with h
          subst h
          split <;> omega

theorem cutSlash (l : List UInt8) (w : World) (hE : Env w) (hl : l.length < 4294967281) :
    Calls Tryz.prog 139 #[.string ⟨l.toArray⟩, .string ⟨#[47]⟩] w fun e w' => e = .returned (.tuple #[.string ⟨(Lib.cut l [47]).1.toArray⟩, .string ⟨(Lib.cut l [47]).2.1.toArray⟩, .bool (Lib.cut l [47]).2.2]) ∧ Below w.heap.size w w' := by
  obtain ⟨m, hm⟩ := hE.len
  exact (Tryz.strings_Cut ⟨l.toArray⟩ ⟨#[47]⟩ m w (by rw [str_size]; exact hl) hm).mono fun e w' ⟨he, n, hw⟩ => ⟨he, by rw [hw]; exact below_drewN (Below.refl _ _) n⟩
theorem atoi_yes (l : List UInt8) (v : Int) (h : Lib.atoiAll l = .ok v) (w : World) (hl : l.length < 4294967281) :
    Calls Tryz.prog 140 #[.string ⟨l.toArray⟩] w fun e w' => e = .returned (.tuple #[.int .i64 v, .nilIface]) ∧ Below w.heap.size w w' :=
  (Tryz.strconv_Atoi_ok ⟨l.toArray⟩ (by rw [str_size]; omega) v h w).mono fun e w' ⟨he, hw⟩ => ⟨he, by
    rcases hw with rfl | ⟨t, rfl⟩
    · exact Below.refl _ _
    · exact Lib.bytesWorld_below _ _ _⟩
theorem atoi_no (l : List UInt8) (h : ∀ v, Lib.atoiAll l ≠ .ok v) (w : World) (hE : Env w) (hl : l.length < 4294967281) :
    Calls Tryz.prog 140 #[.string ⟨l.toArray⟩] w fun e w' => ∃ n p, e = .returned (.tuple #[.int .i64 n, .iface 172 p]) ∧ Below w.heap.size w w' := by
  have hs := Any.strconv_Atoi_syntax Tryz.laysC172 ⟨l.toArray⟩ (by rw [str_size]; omega)
  have hr := Any.strconv_Atoi_range Tryz.laysC172 ⟨l.toArray⟩ (by rw [str_size]; omega)
  obtain ⟨t1, p1, c1⟩ := hE.syn
  obtain ⟨t2, p2, c2⟩ := hE.rng
  rcases hq : Lib.atoiAll l with v | _ | _
  · exact absurd hq (h v)
  · exact (hs hq _ w c1 (.inr ⟨t1, p1, rfl⟩)).mono fun e w' ⟨N, he, _, _, hb⟩ => ⟨_, _, he, hb⟩
  · exact (hr hq _ w c2 (.inr ⟨t2, p2, rfl⟩)).mono fun e w' ⟨N, he, _, _, hb⟩ => ⟨_, _, he, hb⟩
end Go.Proofs.YthlpfefckhdpiaaGreatDoor
