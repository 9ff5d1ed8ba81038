/- Plain facts on integers as texts: the value of a text, the canonical text of a value, digits, groups of nine digits. No program in sight. -/
import Derived.Lib.ItoaNum
import Derived.Lib.Hide
namespace Go.Proofs.YthlpfefckhdpiaaGreatDoor.Num
open Go.Lib

def isDig (c : UInt8) : Bool := decide (48 ≤ c.toNat) && decide (c.toNat ≤ 57)
def body (l : List UInt8) : List UInt8 := if l.head? = some 45 then l.tail else l
def minus (l : List UInt8) : Bool := decide (l.head? = some 45)
def digs (l : List UInt8) : List UInt8 := if (body l).all isDig = true then (body l).dropWhile (· == 48) else []
def negs (l : List UInt8) : Bool := minus l && !(digs l).isEmpty
def nat (ds : List UInt8) : Nat := ds.foldl (fun n c => 10 * n + (c.toNat - 48)) 0
def val (l : List UInt8) : Int := if negs l = true then -(nat (digs l) : Int) else (nat (digs l) : Int)
def canonN (n : Nat) : List UInt8 := if n = 0 then [] else decDigits n
def canon (z : Int) : List UInt8 := if z < 0 then 45 :: decDigits z.natAbs else canonN z.toNat

/-! ### digits -/
theorem nat_foldl (l : List UInt8) (a : Nat) : l.foldl (fun n c => 10 * n + (c.toNat - 48)) a = a * 10 ^ l.length + nat l := by
  induction l generalizing a with
  | nil => simp [nat]
  | cons c r ih =>
    unfold nat
    simp only [List.foldl_cons, List.length_cons]
    rw [ih, ih (10 * 0 + _), Nat.pow_succ]
    simp only [Nat.mul_zero, Nat.zero_add, Nat.add_mul]
    rw [Nat.mul_assoc, Nat.mul_left_comm 10 a, Nat.mul_comm 10, Nat.add_assoc]
theorem nat_append (l m : List UInt8) : nat (l ++ m) = nat l * 10 ^ m.length + nat m := by
  conv => lhs; unfold nat
  rw [List.foldl_append]
  exact nat_foldl m _
theorem nat_nil : nat [] = 0 := rfl
theorem nat_cons (c : UInt8) (r : List UInt8) : nat (c :: r) = (c.toNat - 48) * 10 ^ r.length + nat r := by
  have := nat_append [c] r
  simpa [nat] using this
theorem nat_snoc (l : List UInt8) (c : UInt8) : nat (l ++ [c]) = 10 * nat l + (c.toNat - 48) := by
  rw [nat_append]; simp [nat]; omega
theorem isDig_iff (c : UInt8) : isDig c = true ↔ 48 ≤ c.toNat ∧ c.toNat ≤ 57 := by simp [isDig]
theorem nat_lt (l : List UInt8) (h : l.all isDig = true) : nat l < 10 ^ l.length := by
  induction l with
  | nil => simp [nat]
  | cons c r ih =>
    simp only [List.all_cons, Bool.and_eq_true] at h
    have h1 := (isDig_iff c).1 h.1
    have h2 := ih h.2
    rw [nat_cons, List.length_cons, Nat.pow_succ]
    have : (c.toNat - 48) * 10 ^ r.length ≤ 9 * 10 ^ r.length := Nat.mul_le_mul_right _ (by omega)
    omega
theorem dig_ofNat (d : Nat) (h : d < 10) : (UInt8.ofNat (48 + d)).toNat = 48 + d := by
  rw [UInt8.toNat_ofNat']; omega
theorem decDigits_dig (n : Nat) : (decDigits n).all isDig = true := by
  induction n using Nat.strongRecOn with
  | _ n ih =>
    rw [decDigits]
    split
    · rename_i h
      simp [isDig]; omega
    · rename_i h
      rw [List.all_append, ih (n / 10) (by omega)]
      simp [isDig]; omega
theorem nat_decDigits (n : Nat) : nat (decDigits n) = n := by
  induction n using Nat.strongRecOn with
  | _ n ih =>
    rw [decDigits]
    split
    · rename_i h
      simp [nat]; omega
    · rename_i h
      rw [nat_snoc, ih (n / 10) (by omega), dig_ofNat (n % 10) (by omega)]
      omega
theorem decDigits_ne (n : Nat) : decDigits n ≠ [] := by
  intro h
  have := decDigits_length n
  rw [h] at this
  have := nDigits_pos n
  simp at *
  omega
theorem head_append {l m : List UInt8} (h : l ≠ []) : (l ++ m).head? = l.head? := by
  cases l with
  | nil => exact absurd rfl h
  | cons a r => rfl
theorem decDigits_head (n : Nat) (h : n ≠ 0) : (decDigits n).head? ≠ some 48 := by
  induction n using Nat.strongRecOn with
  | _ n ih =>
    rw [decDigits]
    split
    · rename_i h1
      intro hc
      have := congrArg UInt8.toNat (Option.some.inj hc)
      have e : (48 : UInt8).toNat = 48 := rfl
      rw [dig_ofNat n h1, e] at this
      omega
    · rename_i h1
      rw [head_append (decDigits_ne _)]
      exact ih (n / 10) (by omega) (by omega)
/-- lists of digits without a leading 0 are determined by their value -/
theorem digits_eq (l : List UInt8) (h : l.all isDig = true) (h0 : l.head? ≠ some 48) (hne : l ≠ []) : l = decDigits (nat l) := by
  generalize hn : l.length = k
  induction k using Nat.strongRecOn generalizing l with
  | _ k ih =>
    rcases List.eq_nil_or_concat l with rfl | ⟨r, c, rfl⟩
    · exact absurd rfl hne
    · rw [List.concat_eq_append] at *
      rw [List.all_append, Bool.and_eq_true] at h
      have hc := (isDig_iff c).1 (by simpa using h.2)
      rw [nat_snoc, decDigits]
      have hcc : UInt8.ofNat (48 + (c.toNat - 48)) = c := by
        rw [show 48 + (c.toNat - 48) = c.toNat by omega]; simp
      by_cases hr : r = []
      · subst hr
        rw [dif_pos (by simp [nat]; omega)]
        simp [nat, hcc]
      · have hr0 : r.head? ≠ some 48 := by rwa [head_append hr] at h0
        have e := ih r.length (by simp at hn; omega) r h.1 hr0 hr rfl
        have hpos : 1 ≤ nat r := by
          cases r with
          | nil => exact absurd rfl hr
          | cons d r' =>
            rw [nat_cons]
            simp only [List.all_cons, Bool.and_eq_true] at h
            have hd := (isDig_iff d).1 h.1.1
            have : d.toNat ≠ 48 := by
              intro h48
              apply hr0
              simp
              exact UInt8.toNat_inj.1 h48
            have hp : 1 ≤ 10 ^ r'.length := Nat.one_le_pow _ _ (by decide)
            have : 1 * 1 ≤ (d.toNat - 48) * 10 ^ r'.length := Nat.mul_le_mul (by omega) hp
            omega
        rw [dif_neg (by omega)]
        rw [show (10 * nat r + (c.toNat - 48)) / 10 = nat r by omega, show (10 * nat r + (c.toNat - 48)) % 10 = c.toNat - 48 by omega, hcc, ← e]
theorem dropWhile_head (l : List UInt8) : (l.dropWhile (· == 48)).head? ≠ some 48 := by
  induction l with
  | nil => simp
  | cons c r ih =>
    rw [List.dropWhile_cons]
    split
    · exact ih
    · rename_i h
      simp at h ⊢
      exact h
theorem all_dropWhile {p : UInt8 → Bool} (l : List UInt8) (q : UInt8 → Bool) (h : l.all p = true) : (l.dropWhile q).all p = true := by
  rw [List.all_eq_true] at *
  intro x hx
  exact h x ((List.dropWhile_sublist q).mem hx)
theorem digs_dig (l : List UInt8) : (digs l).all isDig = true := by
  unfold digs
  split
  · rename_i h; exact all_dropWhile _ _ h
  · rfl
theorem digs_head (l : List UInt8) : (digs l).head? ≠ some 48 := by
  unfold digs
  split
  · exact dropWhile_head _
  · simp
theorem nat_pos_of (l : List UInt8) (h : l.all isDig = true) (h0 : l.head? ≠ some 48) (hne : l ≠ []) : nat l ≠ 0 := by
  intro hz
  have e := digits_eq l h h0 hne
  rw [hz] at e
  rw [e] at h0
  exact h0 (by rw [decDigits]; simp)
theorem digs_canonN (l : List UInt8) : digs l = canonN (nat (digs l)) := by
  unfold canonN
  by_cases hd : digs l = []
  · rw [hd]; simp [nat]
  · rw [if_neg (nat_pos_of _ (digs_dig l) (digs_head l) hd)]
    exact digits_eq _ (digs_dig l) (digs_head l) hd
theorem digs_nil_iff (l : List UInt8) : digs l = [] ↔ nat (digs l) = 0 := by
  constructor
  · intro h; rw [h]; rfl
  · intro h; by_cases hd : digs l = []
    · exact hd
    · exact absurd h (nat_pos_of _ (digs_dig l) (digs_head l) hd)
theorem digs_eq_abs (l : List UInt8) : digs l = canonN (val l).natAbs := by
  have : (val l).natAbs = nat (digs l) := by unfold val; split <;> omega
  rw [this]; exact digs_canonN l
theorem negs_iff (l : List UInt8) : negs l = decide (val l < 0) := by
  unfold val
  by_cases h : negs l = true
  · rw [if_pos h, h]
    have : digs l ≠ [] := by
      unfold negs at h; simp at h; exact h.2
    have := (not_congr (digs_nil_iff l)).1 this
    symm; simp; omega
  · rw [if_neg h]
    simp at h
    rw [h]; symm; simp
theorem canon_val (l : List UInt8) : canon (val l) = if negs l = true then 45 :: digs l else digs l := by
  unfold canon
  have hn := negs_iff l
  by_cases h : val l < 0
  · rw [if_pos h, hn]
    simp only [h, decide_true, if_true]
    rw [digs_eq_abs, canonN, if_neg (by omega)]
  · rw [if_neg h, hn]
    simp only [h, decide_false]
    rw [if_neg (by decide), digs_eq_abs]
    congr 1; omega
theorem dropWhile_none (l : List UInt8) (h : l.head? ≠ some 48) : l.dropWhile (· == 48) = l := by
  cases l with
  | nil => rfl
  | cons c r =>
    rw [List.dropWhile_cons, if_neg]
    simp at h ⊢
    exact h
theorem canonN_dig (n : Nat) : (canonN n).all isDig = true := by
  unfold canonN; split
  · rfl
  · exact decDigits_dig n
theorem canonN_head (n : Nat) : (canonN n).head? ≠ some 48 := by
  unfold canonN; split
  · simp
  · rename_i h; exact decDigits_head n h
theorem canonN_head' (n : Nat) : (canonN n).head? ≠ some 45 := by
  intro h
  have := canonN_dig n
  cases hc : canonN n with
  | nil => rw [hc] at h; simp at h
  | cons c r =>
    rw [hc] at h this
    simp at h this
    subst h
    have := this.1
    simp [isDig] at this
theorem nat_canonN (n : Nat) : nat (canonN n) = n := by
  unfold canonN; split
  · rename_i h; rw [h]; rfl
  · exact nat_decDigits n
theorem body_canonN (n : Nat) : body (canonN n) = canonN n := by unfold body; rw [if_neg (canonN_head' n)]
theorem digs_canonN' (n : Nat) : digs (canonN n) = canonN n := by
  unfold digs
  rw [body_canonN, if_pos (canonN_dig n), dropWhile_none _ (canonN_head n)]
theorem val_canonN (n : Nat) : val (canonN n) = n := by
  have hm : minus (canonN n) = false := by simp [minus]; exact canonN_head' n
  unfold val negs
  rw [digs_canonN', nat_canonN, hm]; simp
theorem val_canon (z : Int) : val (canon z) = z := by
  unfold canon
  split
  · rename_i h
    have hb : body (45 :: decDigits z.natAbs) = decDigits z.natAbs := by simp [body]
    have hd : digs (45 :: decDigits z.natAbs) = decDigits z.natAbs := by
      unfold digs
      rw [hb, if_pos (decDigits_dig _), dropWhile_none _ (decDigits_head _ (by omega))]
    have hn : negs (45 :: decDigits z.natAbs) = true := by
      unfold negs; rw [hd]; simp [minus, decDigits_ne]
    unfold val
    rw [if_pos hn, hd, nat_decDigits]
    omega
  · rename_i h
    rw [val_canonN]; omega
theorem canon_inj {a b : Int} (h : canon a = canon b) : a = b := by rw [← val_canon a, h, val_canon]
theorem canon_zero : canon 0 = [] := by simp [canon, canonN]
theorem canon_nil_iff (z : Int) : canon z = [] ↔ z = 0 := by
  constructor
  · intro h; rw [← val_canon z, h]; rfl
  · rintro rfl; exact canon_zero
theorem canonN_nil_iff (n : Nat) : canonN n = [] ↔ n = 0 := by
  constructor
  · intro h; have := nat_canonN n; rw [h] at this; exact this.symm
  · rintro rfl; rfl

end Go.Proofs.YthlpfefckhdpiaaGreatDoor.Num
