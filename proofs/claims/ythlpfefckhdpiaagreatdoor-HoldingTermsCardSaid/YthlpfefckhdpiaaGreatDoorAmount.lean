/- tranchelaw23.amount over terms. -/
import Derived.Test.YthlpfefckhdpiaaGreatDoorRefGains2
namespace Go.Proofs.YthlpfefckhdpiaaGreatDoor
open Go.RowKit Num Dt
attribute [local go_sem] str_append str_extract str_size setCell_drewN

/-- the amount of the first term with a name; else the text none -/
def amountOf : List (List UInt8 × List UInt8) → List UInt8 → List UInt8
  | [], _ => [110, 111, 110, 101]
  | x :: r, n => if x.1 = n then x.2 else amountOf r n
theorem str_inj {a b : List UInt8} : ((⟨a.toArray⟩ : ByteArray) = ⟨b.toArray⟩) ↔ a = b := by
  constructor
  · intro h; injection h with h; exact List.toArray_inj h
  · intro h; rw [h]
set_option maxHeartbeats 2000000 in
set_option maxRecDepth 100000 in
theorem amount_any (ts : List (List UInt8 × List UInt8)) (n : List UInt8) (a : Option Addr) (c : Nat) (w : World) (hn : ts.length ≤ 1000) (hw : Terms w a ts) :
    Calls Tryz.prog 31 #[.slice a ts.length c, .string ⟨n.toArray⟩] w fun e w' => e = .returned (.string ⟨(amountOf ts n).toArray⟩) ∧ Below w.heap.size w w' := by
  have HW := Lib.hid hw
  clear hw
  have hr : Hid (amountOf (ts.drop 0) n = amountOf ts n) := by show _ = _; simp
  generalize amountOf ts n = r at *
  go_enter Tryz.func31, Tryz.ntmps31
  go_wp2
  go_loopw [9] (fun i W => Hid (Below w.heap.size w W) ∧ ∃ k : Nat, k ≤ ts.length ∧ i = .int .i64 (k : Int) ∧ Hid (amountOf (ts.drop k) n = r)) (fun i _ => ts.length - (intOf i).toNat)
  case atStart => exact ⟨Below.refl _ _, 0, Nat.zero_le _, rfl, hr⟩
  case round =>
    clear hr
    obtain ⟨hB, k, hk, rfl, hT⟩ := hrel
    by_cases hlt : k < ts.length
    · obtain ⟨x, hx⟩ : ∃ x, ts[k]? = some x := ⟨ts[k], List.getElem?_eq_getElem hlt⟩
      obtain ⟨b, off, ha, k0, k1⟩ := (HW.out.below hB.out).addr hx
      subst ha
      have hd : Hid ((if x.1 = n then x.2 else amountOf (ts.drop (k + 1)) n) = r) := by
        show _ = _
        have h := hT.out
        rw [List.drop_eq_getElem_cons hlt] at h
        have e : ts[k] = x := by rw [List.getElem?_eq_getElem hlt] at hx; exact Option.some.inj hx
        rw [e] at h
        exact h
      obtain ⟨x1, x2⟩ := x
      simp only at k0 k1 hd
      clear hx hT
      have HB := Lib.hid (below_up hB.out (below_alloc wr (.cells #[.string ⟨x1.toArray⟩, .string ⟨x2.toArray⟩] 66)))
      by_cases g : x1 = n
      · have hd2 : Hid (x2 = r) := by show _ = _; rw [← hd.out, if_pos g]
        clear hd
        subst g
        go_wp2
        go_ret
        exact ⟨ret_val (by rw [← hd2.out]; rfl), HB.out⟩
      · have hd2 : Hid (amountOf (ts.drop (k + 1)) n = r) := by show _ = _; rw [← hd.out, if_neg g]
        clear hd
        have g' : (x1 == n) = false := by simpa using g
        go_wp2
        go_round
        case rel => exact ⟨HB, k + 1, by omega, by go_num, hd2⟩
        case measure => simp [intOf]; omega
    · obtain rfl : k = ts.length := by omega
      have hr : Hid (r = [110, 111, 110, 101]) := by show _ = _; rw [← hT.out]; simp [amountOf]
      go_wp2
      go_ret
      exact ⟨ret_val (by rw [hr.out]; rfl), hB.out⟩
end Go.Proofs.YthlpfefckhdpiaaGreatDoor
