/- slices.ContainsFunc over lots. -/
import Derived.Test.YthlpfefckhdpiaaGreatDoorLotAll
namespace Go.Proofs.YthlpfefckhdpiaaGreatDoor
open Go.RowKit Num
attribute [local go_sem] str_append str_extract str_size

set_option maxHeartbeats 2000000 in
set_option maxRecDepth 100000 in
theorem indexFunc_lot (g : Nat) (f1 : Value) (p : LotP → Bool) (B0 : Nat) (I : World → Prop) (hI : ∀ W W', I W → Below B0 W W' → I W') (hen : ∀ (args : Array Value) (w : World), (callFunc g args).run Tryz.prog w = .ok (.enter g args) w)
    (hp : ∀ (x : LotP) W, I W → Calls Tryz.prog g #[x.v, f1] W fun e w' => e = .returned (.bool (p x)) ∧ Below W.heap.size W w')
    (ls : List LotP) (a : Option Addr) (cap : Nat) (w : World) (hw : Lots w a ls) (h0 : I w) (hB0 : B0 ≤ w.heap.size) (hl : ls.length ≤ 1000000) :
    Calls Tryz.prog 44 #[.slice a ls.length cap, .func (.func g) #[] #[f1]] w fun e w' => (∃ z : Int, e = .returned (.int .i64 z) ∧ decide (0 ≤ z) = ls.any p) ∧ Below w.heap.size w w' := by
  have HI := Lib.hid (fun W W' h (hs : B0 ≤ W.heap.size) hb => hI W W' h (Below.mono hb hs))
  have HP := Lib.hid hp
  have HW := Lib.hid hw
  have H0 := Lib.hid h0
  clear hI hp hw h0
  go_enter Tryz.func44, Tryz.ntmps44
  go_wp2
  go_loopw [8] (fun i W => Hid (Below w.heap.size w W) ∧ Hid (I W) ∧ ∃ k : Nat, k ≤ ls.length ∧ i = .int .i64 (k : Int) ∧ Hid ((ls.take k).any p = false)) (fun i _ => ls.length - (intOf i).toNat)
  case atStart => exact ⟨Below.refl _ _, H0, 0, Nat.zero_le _, rfl, rfl⟩
  case round =>
    obtain ⟨hB, hIW, k, hk, rfl, hT⟩ := hrel
    by_cases hlt : k < ls.length
    · obtain ⟨x, hx⟩ : ∃ x, ls[k]? = some x := ⟨ls[k], List.getElem?_eq_getElem hlt⟩
      obtain ⟨b, off, ha, k0, k1, k2, k3, k4, k5, k6⟩ := (HW.out.below hB.out).addr hx
      subst ha
      have HX := Lib.hid (fun h => any_hit (p := p) hx h)
      have HY := Lib.hid (fun h => any_take_false (p := p) hx hT.out h)
      clear hx
      have HP := Lib.hid (fun W h => HP.out x W h)
      simp only [LotP.v] at HP
      go_wp2_with fail
      refine (HP.out _ hIW.out).mono ?_
      rintro e w1 ⟨rfl, hb⟩
      have hs0 := hB.out.size
      have hB := Lib.hid (below_up hB.out hb)
      have hIW := Lib.hid (HI.out _ _ hIW.out (Nat.le_trans hB0 hs0) hb)
      clear k0 k1 k2 k3 k4 k5 k6 hb
      cases hpx : p x
      · go_wp2
        go_round
        case rel => exact ⟨hB, hIW, k + 1, by omega, by go_num, HY.out hpx⟩
        case measure => simp [intOf]; omega
      · go_wp2
        go_ret
        exact ⟨⟨(k : Int), rfl, by rw [HX.out hpx]; simp⟩, hB.out⟩
    · obtain rfl : k = ls.length := by omega
      go_wp2
      go_ret
      exact ⟨⟨-1, rfl, by have := hT.out; rw [List.take_length] at this; rw [this]; rfl⟩, hB.out⟩
theorem containsFunc_lot (g : Nat) (f1 : Value) (p : LotP → Bool) (B0 : Nat) (I : World → Prop) (hI : ∀ W W', I W → Below B0 W W' → I W') (hen : ∀ (args : Array Value) (w : World), (callFunc g args).run Tryz.prog w = .ok (.enter g args) w)
    (hp : ∀ (x : LotP) W, I W → Calls Tryz.prog g #[x.v, f1] W fun e w' => e = .returned (.bool (p x)) ∧ Below W.heap.size W w')
    (ls : List LotP) (a : Option Addr) (cap : Nat) (w : World) (hw : Lots w a ls) (h0 : I w) (hB0 : B0 ≤ w.heap.size) (hl : ls.length ≤ 1000000) :
    Calls Tryz.prog 12 #[.slice a ls.length cap, .func (.func g) #[] #[f1]] w fun e w' => e = .returned (.bool (ls.any p)) ∧ Below w.heap.size w w' := by
  have H := Lib.hid (indexFunc_lot g f1 p B0 I hI hen hp ls a cap w hw h0 hB0 hl)
  clear hI hp hw h0
  go_enter Tryz.func12, Tryz.ntmps12
  go_wp2_with fail
  refine H.out.mono ?_
  rintro e w1 ⟨⟨z, rfl, hz⟩, hb⟩
  have HZ := Lib.hid hz
  clear hz
  by_cases g0 : 0 ≤ z
  all_goals
    go_wp2
    go_ret
    exact ⟨ret_bool (by rw [← HZ.out]; try simp [g0]), hb⟩
end Go.Proofs.YthlpfefckhdpiaaGreatDoor
