/- Gains in memory; slices.ContainsFunc over gains. -/
import Derived.Test.YthlpfefckhdpiaaGreatDoorGain
import Derived.Test.YthlpfefckhdpiaaGreatDoorLots
namespace Go.Proofs.YthlpfefckhdpiaaGreatDoor
open Go.RowKit Num Dt
attribute [local go_sem] str_append str_extract str_size

/-- gains lie from the address a on -/
def Gains (w : World) (a : Option Addr) (gs : List GainP) : Prop :=
  gs = [] ∨ ∃ b off, a = some ⟨b, off, none⟩ ∧ b < w.heap.size ∧ ∀ k x, gs[k]? = some x →
    w.cell? ⟨b, off + k * 10, none⟩ = some (str x.cause) ∧ w.cell? ⟨b, off + k * 10 + 1, none⟩ = some (str x.lot) ∧ w.cell? ⟨b, off + k * 10 + 2, none⟩ = some (str x.ins) ∧ w.cell? ⟨b, off + k * 10 + 3, none⟩ = some (.int .i64 x.acq) ∧ w.cell? ⟨b, off + k * 10 + 4, none⟩ = some (.int .i64 x.cls) ∧ w.cell? ⟨b, off + k * 10 + 5, none⟩ = some (str x.q) ∧ w.cell? ⟨b, off + k * 10 + 6, none⟩ = some (str x.p) ∧ w.cell? ⟨b, off + k * 10 + 7, none⟩ = some (str x.c) ∧ w.cell? ⟨b, off + k * 10 + 8, none⟩ = some (str x.df) ∧ w.cell? ⟨b, off + k * 10 + 9, none⟩ = some (str x.rp)
theorem Gains.below {w w' : World} {a : Option Addr} {gs : List GainP} (h : Gains w a gs) (hb : Below w.heap.size w w') : Gains w' a gs := by
  rcases h with h | ⟨b, off, ha, hlt, hc⟩
  · exact .inl h
  · have hcell : ∀ o, w'.cell? ⟨b, o, none⟩ = w.cell? ⟨b, o, none⟩ := fun o => hb.cell (p := ⟨b, o, none⟩) hlt
    refine .inr ⟨b, off, ha, Nat.lt_of_lt_of_le hlt hb.size, fun k x hx => ?_⟩
    simp only [hcell]
    exact hc k x hx
theorem Gains.addr {w : World} {a : Option Addr} {gs : List GainP} (h : Gains w a gs) {k : Nat} {x : GainP} (hx : gs[k]? = some x) :
    ∃ b off, a = some ⟨b, off, none⟩ ∧ w.cell? ⟨b, off + k * 10, none⟩ = some (str x.cause) ∧ w.cell? ⟨b, off + k * 10 + 1, none⟩ = some (str x.lot) ∧ w.cell? ⟨b, off + k * 10 + 2, none⟩ = some (str x.ins) ∧ w.cell? ⟨b, off + k * 10 + 3, none⟩ = some (.int .i64 x.acq) ∧ w.cell? ⟨b, off + k * 10 + 4, none⟩ = some (.int .i64 x.cls) ∧ w.cell? ⟨b, off + k * 10 + 5, none⟩ = some (str x.q) ∧ w.cell? ⟨b, off + k * 10 + 6, none⟩ = some (str x.p) ∧ w.cell? ⟨b, off + k * 10 + 7, none⟩ = some (str x.c) ∧ w.cell? ⟨b, off + k * 10 + 8, none⟩ = some (str x.df) ∧ w.cell? ⟨b, off + k * 10 + 9, none⟩ = some (str x.rp) := by
  rcases h with h | ⟨b, off, ha, _, hc⟩
  · rw [h] at hx; simp at hx
  · exact ⟨b, off, ha, hc k x hx⟩
theorem Gains.take {w : World} {a : Option Addr} {gs : List GainP} (h : Gains w a gs) (k : Nat) : Gains w a (gs.take k) := by
  rcases h with h | ⟨b, off, ha, hlt, hc⟩
  · exact .inl (by rw [h]; simp)
  · refine .inr ⟨b, off, ha, hlt, fun j x hx => hc j x ?_⟩
    rw [List.getElem?_take] at hx
    split at hx
    · exact hx
    · cases hx
set_option maxHeartbeats 2000000 in
set_option maxRecDepth 100000 in
theorem indexFunc_gain (g : Nat) (p : GainP → Bool) (hen : ∀ (args : Array Value) (w : World), (callFunc g args).run Tryz.prog w = .ok (.enter g args) w) (gs : List GainP) (a : Option Addr) (cap : Nat) (w : World) (hE : Env w)
    (hp : ∀ (x : GainP) W, x ∈ gs → Env W → Calls Tryz.prog g #[x.v] W fun e w' => e = .returned (.bool (p x)) ∧ Below W.heap.size W w')
    (hw : Gains w a gs) (hl : gs.length ≤ 1000000) :
    Calls Tryz.prog 96 #[.slice a gs.length cap, .func (.func g) #[] #[]] w fun e w' => (∃ z : Int, e = .returned (.int .i64 z) ∧ decide (0 ≤ z) = gs.any p) ∧ Below w.heap.size w w' := by
  have HP := Lib.hid hp
  have HW := Lib.hid hw
  have HE := Lib.hid hE
  clear hp hw hE
  go_enter Tryz.func96, Tryz.ntmps96
  go_wp2
  go_loopw [8] (fun i W => Hid (Below w.heap.size w W) ∧ ∃ k : Nat, k ≤ gs.length ∧ i = .int .i64 (k : Int) ∧ Hid ((gs.take k).any p = false)) (fun i _ => gs.length - (intOf i).toNat)
  case atStart => exact ⟨Below.refl _ _, 0, Nat.zero_le _, rfl, rfl⟩
  case round =>
    obtain ⟨hB, k, hk, rfl, hT⟩ := hrel
    by_cases hlt : k < gs.length
    · obtain ⟨x, hx⟩ : ∃ x, gs[k]? = some x := ⟨gs[k], List.getElem?_eq_getElem hlt⟩
      obtain ⟨b, off, ha, k0, k1, k2, k3, k4, k5, k6, k7, k8, k9⟩ := (HW.out.below hB.out).addr hx
      subst ha
      have HX := Lib.hid (fun h => any_hit (p := p) hx h)
      have HY := Lib.hid (fun h => any_take_false (p := p) hx hT.out h)
      have HP := Lib.hid (fun W h => HP.out x W (List.mem_of_getElem? hx) h)
      clear hx
      simp only [GainP.v, GainP.cs] at HP
      go_wp2_with fail
      refine (HP.out _ (HE.out.below hB.out)).mono ?_
      rintro e w1 ⟨rfl, hb⟩
      have hB := Lib.hid (below_up hB.out hb)
      clear k0 k1 k2 k3 k4 k5 k6 k7 k8 k9 hb
      cases hpx : p x
      · go_wp2
        go_round
        case rel => exact ⟨hB, k + 1, by omega, by go_num, HY.out hpx⟩
        case measure => simp [intOf]; omega
      · go_wp2
        go_ret
        exact ⟨⟨(k : Int), rfl, by rw [HX.out hpx]; simp⟩, hB.out⟩
    · obtain rfl : k = gs.length := by omega
      go_wp2
      go_ret
      exact ⟨⟨-1, rfl, by have := hT.out; rw [List.take_length] at this; rw [this]; rfl⟩, hB.out⟩
theorem containsFunc_gain (g : Nat) (p : GainP → Bool) (hen : ∀ (args : Array Value) (w : World), (callFunc g args).run Tryz.prog w = .ok (.enter g args) w) (gs : List GainP) (a : Option Addr) (cap : Nat) (w : World) (hE : Env w)
    (hp : ∀ (x : GainP) W, x ∈ gs → Env W → Calls Tryz.prog g #[x.v] W fun e w' => e = .returned (.bool (p x)) ∧ Below W.heap.size W w')
    (hw : Gains w a gs) (hl : gs.length ≤ 1000000) :
    Calls Tryz.prog 52 #[.slice a gs.length cap, .func (.func g) #[] #[]] w fun e w' => e = .returned (.bool (gs.any p)) ∧ Below w.heap.size w w' := by
  have H := Lib.hid (indexFunc_gain g p hen gs a cap w hE hp hw hl)
  clear hp hw hE
  go_enter Tryz.func52, Tryz.ntmps52
  go_wp2_with fail
  refine H.out.mono ?_
  rintro e w1 ⟨⟨z, rfl, hz⟩, hb⟩
  have HZ := Lib.hid hz
  clear hz
  by_cases g0 : 0 ≤ z
  all_goals
    go_wp2
    go_ret
    exact ⟨ret_bool (by rw [← HZ.out]; try simp [g0]), hb⟩
def GainP.bad (x : GainP) : Bool := decide (x.err ≠ 0)
theorem wrong_any (x : GainP) (w : World) (hE : Env w) (hs : x.small) : Calls Tryz.prog 68 #[x.v] w fun e w' => e = .returned (.bool x.bad) ∧ Below w.heap.size w w' := by
  have hr : Hid (x.bad = decide (x.err ≠ 0)) := rfl
  have HB := Lib.hid (below_alloc w (.cells x.cs 51))
  have H := Lib.hid (fun W hW => gainCheck_any x W hW hs)
  have HE := Lib.hid hE
  clear hE hs
  generalize x.err = z at *
  generalize x.bad = r at *
  simp only [GainP.v, GainP.cs] at *
  by_cases g : z = 0
  all_goals
    go_enter Tryz.func68, Tryz.ntmps68
    go_wp2_with fail
    refine (H.out _ (by first | exact HE.out | exact HE.out.below HB.out)).mono ?_
    rintro e w1 ⟨rfl, hb⟩
    go_wp2
    go_ret
    exact ⟨ret_bool (by rw [hr.out]; simp [g]), by first | exact hb | exact below_up HB.out hb⟩
theorem split1_any (x : GainP) (w : World) (hE : Env w) (hs : x.small) : Calls Tryz.prog 55 #[x.v] w fun e w' => e = .returned (.bool x.bad) ∧ Below w.heap.size w w' := by
  have hr : Hid (x.bad = decide (x.err ≠ 0)) := rfl
  have HB := Lib.hid (below_alloc w (.cells x.cs 51))
  have H := Lib.hid (fun W hW => gainCheck_any x W hW hs)
  have HE := Lib.hid hE
  clear hE hs
  generalize x.err = z at *
  generalize x.bad = r at *
  simp only [GainP.v, GainP.cs] at *
  by_cases g : z = 0
  all_goals
    go_enter Tryz.func55, Tryz.ntmps55
    go_wp2_with fail
    refine (H.out _ (by first | exact HE.out | exact HE.out.below HB.out)).mono ?_
    rintro e w1 ⟨rfl, hb⟩
    go_wp2
    go_ret
    exact ⟨ret_bool (by rw [hr.out]; simp [g]), by first | exact hb | exact below_up HB.out hb⟩
end Go.Proofs.YthlpfefckhdpiaaGreatDoor
