/- trancheref21.Great, the laws' fine. -/
import Derived.Test.YthlpfefckhdpiaaGreatDoorRef21
namespace Go.Proofs.YthlpfefckhdpiaaGreatDoor
open Go.RowKit Num Dt
attribute [local go_sem] str_append str_extract str_size setCell_drewN

def GainP.great (x : GainP) : Bool := decide (13 < x.q.length) || decide (13 < x.p.length) || decide (13 < x.c.length) || decide (13 < x.df.length) || decide (13 < x.rp.length) || decide (24 < x.cause.length) || decide (30 < x.lot.length) || decide (24 < x.ins.length)
def GainP.fits (x : GainP) : Prop := x.cause.length ≤ 9223372036854775807 ∧ x.lot.length ≤ 9223372036854775807 ∧ x.ins.length ≤ 9223372036854775807 ∧ x.q.length ≤ 9223372036854775807 ∧ x.p.length ≤ 9223372036854775807 ∧ x.c.length ≤ 9223372036854775807 ∧ x.df.length ≤ 9223372036854775807 ∧ x.rp.length ≤ 9223372036854775807
def ggreats (gs : List GainP) : Bool := gs.any GainP.great || decide (12 < gs.length)
theorem long13_any (l : List UInt8) (hl : l.length ≤ 9223372036854775807) (W : World) : Calls Tryz.prog 61 #[.string ⟨l.toArray⟩] W fun e w' => e = .returned (.bool (decide (13 < l.length))) ∧ W = w' := by
  by_cases g : (13 : Int) < l.length
  all_goals
    go_enter Tryz.func61, Tryz.ntmps61
    go_wp2
    go_ret
    exact ⟨ret_bool (by simp; try omega), rfl⟩
theorem not_ggreat {x : GainP} (h : x.great = false) : x.small := by
  unfold GainP.great at h
  simp at h
  unfold GainP.small
  omega
set_option maxHeartbeats 2000000 in
set_option maxRecDepth 100000 in
theorem rggreat_any (gs : List GainP) (a : Option Addr) (c : Nat) (w : World) (hn : gs.length ≤ 9223372036854775807) (hw : Gains w a gs) (hs : ∀ x, x ∈ gs → x.fits) :
    Calls Tryz.prog 22 #[.slice a gs.length c] w fun e w' => e = .returned (.bool (ggreats gs)) ∧ Below w.heap.size w w' := by
  have HS := Lib.hid hs
  have HW := Lib.hid hw
  have HG := Lib.hid (show ggreats gs = (gs.any GainP.great || decide (12 < gs.length)) from rfl)
  clear hs hw
  generalize ggreats gs = r at *
  go_enter Tryz.func22, Tryz.ntmps22
  go_wp2
  go_loopw [3] (fun i W => Hid (Below w.heap.size w W) ∧ ∃ k : Nat, k ≤ gs.length ∧ i = .int .i64 (k : Int) ∧ Hid ((gs.take k).any GainP.great = false)) (fun i _ => gs.length - (intOf i).toNat)
  case atStart => exact ⟨Below.refl _ _, 0, Nat.zero_le _, rfl, rfl⟩
  case round =>
    obtain ⟨hB, k, hk, rfl, hp⟩ := hrel
    by_cases hlt : k < gs.length
    · obtain ⟨x, hx⟩ : ∃ x, gs[k]? = some x := ⟨gs[k], List.getElem?_eq_getElem hlt⟩
      obtain ⟨b, off, ha, k0, k1, k2, k3, k4, k5, k6, k7, k8, k9⟩ := (HW.out.below hB.out).addr hx
      subst ha
      have hm := HS.out x (List.mem_of_getElem? hx)
      obtain ⟨f1, f2, f3, f4, f5, f6, f7, f8⟩ := hm
      have hgr : Hid (x.great = (decide (13 < x.q.length) || decide (13 < x.p.length) || decide (13 < x.c.length) || decide (13 < x.df.length) || decide (13 < x.rp.length) || decide (24 < x.cause.length) || decide (30 < x.lot.length) || decide (24 < x.ins.length))) := rfl
      have H1 := Lib.hid (long13_any x.q f4)
      have H2 := Lib.hid (long13_any x.p f5)
      have H3 := Lib.hid (long13_any x.c f6)
      have H4 := Lib.hid (long13_any x.df f7)
      have H5 := Lib.hid (long13_any x.rp f8)
      have HX := Lib.hid (fun h => any_hit (p := GainP.great) hx h)
      have HY := Lib.hid (fun h => any_take_false (p := GainP.great) hx hp.out h)
      have HB := Lib.hid (below_up hB.out (below_alloc wr (.cells #[.string ⟨x.cause.toArray⟩, .string ⟨x.lot.toArray⟩, .string ⟨x.ins.toArray⟩, .int .i64 x.acq, .int .i64 x.cls, .string ⟨x.q.toArray⟩, .string ⟨x.p.toArray⟩, .string ⟨x.c.toArray⟩, .string ⟨x.df.toArray⟩, .string ⟨x.rp.toArray⟩] 51)))
      clear hx f4 f5 f6 f7 f8
      generalize decide (13 < x.q.length) = b1 at *
      generalize decide (13 < x.p.length) = b2 at *
      generalize decide (13 < x.c.length) = b3 at *
      generalize decide (13 < x.df.length) = b4 at *
      generalize decide (13 < x.rp.length) = b5 at *
      have HG : Hid (gs.any GainP.great = true → r = true) := fun h => by rw [HG.out, h]; rfl
      go_wp2_with fail
      refine (H1.out _).mono ?_
      rintro e w1 ⟨rfl, rfl⟩
      cases b1
      case true =>
        go_wp2
        go_ret
        exact ⟨ret_bool (by rw [HG.out (HX.out (by rw [hgr.out]; simp))]), HB.out⟩
      go_wp2_with fail
      refine (H2.out _).mono ?_
      rintro e w1 ⟨rfl, rfl⟩
      cases b2
      case true =>
        go_wp2
        go_ret
        exact ⟨ret_bool (by rw [HG.out (HX.out (by rw [hgr.out]; simp))]), HB.out⟩
      go_wp2_with fail
      refine (H3.out _).mono ?_
      rintro e w1 ⟨rfl, rfl⟩
      cases b3
      case true =>
        go_wp2
        go_ret
        exact ⟨ret_bool (by rw [HG.out (HX.out (by rw [hgr.out]; simp))]), HB.out⟩
      go_wp2_with fail
      refine (H4.out _).mono ?_
      rintro e w1 ⟨rfl, rfl⟩
      cases b4
      case true =>
        go_wp2
        go_ret
        exact ⟨ret_bool (by rw [HG.out (HX.out (by rw [hgr.out]; simp))]), HB.out⟩
      go_wp2_with fail
      refine (H5.out _).mono ?_
      rintro e w1 ⟨rfl, rfl⟩
      cases b5
      case true =>
        go_wp2
        go_ret
        exact ⟨ret_bool (by rw [HG.out (HX.out (by rw [hgr.out]; simp))]), HB.out⟩
      by_cases g6 : (24 : Int) < x.cause.length
      · go_wp2
        go_ret
        exact ⟨ret_bool (by rw [HG.out (HX.out (by rw [hgr.out]; simp; omega))]), HB.out⟩
      by_cases g7 : (30 : Int) < x.lot.length
      · go_wp2
        go_ret
        exact ⟨ret_bool (by rw [HG.out (HX.out (by rw [hgr.out]; simp; omega))]), HB.out⟩
      by_cases g8 : (24 : Int) < x.ins.length
      · go_wp2
        go_ret
        exact ⟨ret_bool (by rw [HG.out (HX.out (by rw [hgr.out]; simp; omega))]), HB.out⟩
      have HY := Lib.hid (HY.out (by rw [hgr.out]; simp; omega))
      go_wp2
      go_round
      case rel => exact ⟨HB, k + 1, by omega, by go_num, HY⟩
      case measure => simp [intOf]; omega
    · obtain rfl : k = gs.length := by omega
      have hr : Hid (r = decide (12 < gs.length)) := by show _ = _; have := hp.out; rw [List.take_length] at this; rw [HG.out, this]; rfl
      by_cases g : (12 : Int) < gs.length
      all_goals
        go_wp2
        go_ret
        exact ⟨ret_bool (by rw [hr.out]; simp; try omega), hB.out⟩
theorem fine1_any (x : GainP) (w : World) (hs : x.small) : Calls Tryz.prog 53 #[x.v] w fun e w' => e = .returned (.bool x.bad) ∧ Below w.heap.size w w' := by
  have hr : Hid (x.bad = decide (x.err ≠ 0)) := rfl
  have HB := Lib.hid (below_alloc w (.cells x.cs 51))
  have H := Lib.hid (fun W => rgainCheck_any x W hs)
  clear hs
  generalize x.err = z at *
  generalize x.bad = r at *
  simp only [GainP.v, GainP.cs] at *
  by_cases g : z = 0
  all_goals
    go_enter Tryz.func53, Tryz.ntmps53
    go_wp2_with fail
    refine (H.out _).mono ?_
    rintro e w1 ⟨rfl, hb⟩
    go_wp2
    go_ret
    exact ⟨ret_bool (by rw [hr.out]; simp [g]), below_up HB.out hb⟩
def fine (gs : List GainP) : Bool := !(ggreats gs) && !(gs.any GainP.bad)
theorem fine_small {gs : List GainP} (h : ggreats gs = false) : (∀ x, x ∈ gs → x.small) ∧ gs.length ≤ 12 := by
  unfold ggreats at h
  obtain ⟨h1, h2⟩ := Bool.or_eq_false_iff.1 h
  rw [List.any_eq_false] at h1
  exact ⟨fun x hx => not_ggreat (by simpa using h1 x hx), by simp at h2; exact h2⟩
set_option maxHeartbeats 1000000 in
theorem fine_any (gs : List GainP) (a : Option Addr) (c : Nat) (w : World) (hE : Env w) (hn : gs.length ≤ 9223372036854775807) (hw : Gains w a gs) (hs : ∀ x, x ∈ gs → x.fits) :
    Calls Tryz.prog 18 #[.slice a gs.length c] w fun e w' => e = .returned (.bool (fine gs)) ∧ Below w.heap.size w w' := by
  have H1 := Lib.hid (rggreat_any gs a c w hn hw hs)
  have hr : Hid (fine gs = (!(ggreats gs) && !(gs.any GainP.bad))) := rfl
  cases hg : ggreats gs
  · have hsm := fine_small hg
    have HW := Lib.hid hw
    have HE := Lib.hid hE
    have H2 := Lib.hid (fun W (hb : Below w.heap.size w W) => containsFunc_gain 53 GainP.bad (fun args w => MuLone.run_callFunc_enter Tryz.func53 (by kernel_rfl) rfl args w) gs a c W (HE.out.below hb) (fun x W hx _ => fine1_any x W (hsm.1 x hx)) (HW.out.below hb) (by omega))
    rw [hg] at H1 hr
    clear hw hs hE hsm hg
    generalize fine gs = r at *
    generalize gs.any GainP.bad = b at *
    go_enter Tryz.func18, Tryz.ntmps18
    go_wp2_with fail
    refine H1.out.mono ?_
    rintro e w1 ⟨rfl, hb⟩
    have HB := Lib.hid hb
    clear hb
    go_wp2_with fail
    refine (H2.out _ HB.out).mono ?_
    rintro e w2 ⟨rfl, hb⟩
    go_wp2
    go_ret
    exact ⟨ret_bool (by rw [hr.out]; rfl), below_up HB.out hb⟩
  · rw [hg] at H1 hr
    clear hw hs hE hg
    generalize fine gs = r at *
    go_enter Tryz.func18, Tryz.ntmps18
    go_wp2_with fail
    refine H1.out.mono ?_
    rintro e w1 ⟨rfl, hb⟩
    go_wp2
    go_ret
    exact ⟨ret_bool (by rw [hr.out]; rfl), hb⟩
end Go.Proofs.YthlpfefckhdpiaaGreatDoor
