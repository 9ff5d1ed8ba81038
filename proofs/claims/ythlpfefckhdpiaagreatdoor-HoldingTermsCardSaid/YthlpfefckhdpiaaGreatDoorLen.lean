/- Numbers: how long a sum's digits are. -/
import Derived.Test.YthlpfefckhdpiaaGreatDoorDigits
import Derived.Test.YthlpfefckhdpiaaGreatDoorMag
namespace Go.Proofs.YthlpfefckhdpiaaGreatDoor
open Go.RowKit Num

theorem val_abs (l : List UInt8) : (val l).natAbs < 10 ^ l.length := by
  have h1 : nat (digs l) < 10 ^ (digs l).length := nat_lt _ (digs_dig l)
  have h2 : 10 ^ (digs l).length ≤ 10 ^ l.length := Nat.pow_le_pow_right (by decide) (digs_le l)
  unfold val
  split <;> omega
theorem canon_len {z : Int} {K : Nat} (hK : 1 ≤ K) (h : z.natAbs < 10 ^ K) : (canon z).length ≤ K + 1 := by
  unfold canon
  split
  · have := nDigits_le z.natAbs K hK h
    simp only [List.length_cons, Lib.decDigits_length]; omega
  · unfold canonN
    split
    · simp
    · have := nDigits_le z.toNat K hK (by omega)
      rw [Lib.decDigits_length]; omega
theorem two_pow (K : Nat) : 2 * 10 ^ K ≤ 10 ^ (K + 1) := by rw [Nat.pow_succ]; omega
theorem add_len {l m : List UInt8} {K : Nat} (hl : l.length ≤ K) (hm : m.length ≤ K) : (canon (val l + val m)).length ≤ K + 2 := by
  have h1 := val_abs l
  have h2 := val_abs m
  have h3 : 10 ^ l.length ≤ 10 ^ K := Nat.pow_le_pow_right (by decide) hl
  have h4 : 10 ^ m.length ≤ 10 ^ K := Nat.pow_le_pow_right (by decide) hm
  have h5 := two_pow K
  exact canon_len (by omega) (by omega)
theorem sub_len {l m : List UInt8} {K : Nat} (hl : l.length ≤ K) (hm : m.length ≤ K) : (canon (val l - val m)).length ≤ K + 2 := by
  have h1 := val_abs l
  have h2 := val_abs m
  have h3 : 10 ^ l.length ≤ 10 ^ K := Nat.pow_le_pow_right (by decide) hl
  have h4 : 10 ^ m.length ≤ 10 ^ K := Nat.pow_le_pow_right (by decide) hm
  have h5 := two_pow K
  exact canon_len (by omega) (by omega)
end Go.Proofs.YthlpfefckhdpiaaGreatDoor
