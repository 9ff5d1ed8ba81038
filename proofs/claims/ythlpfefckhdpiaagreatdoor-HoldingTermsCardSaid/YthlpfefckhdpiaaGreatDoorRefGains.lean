/- trancheref21 and trancheref23 over gains: Realized, CheckAll, Total, check, Split, realized, Sums, Terms; Same and SameTerms of equal lists. -/
import Derived.Test.YthlpfefckhdpiaaGreatDoorTerms
import Derived.Test.YthlpfefckhdpiaaGreatDoorFine
namespace Go.Proofs.YthlpfefckhdpiaaGreatDoor
open Go.RowKit Num Dt
attribute [local go_sem] str_append str_extract str_size setCell_drewN

theorem r23count_any (m : Int) (w : World) : Calls Tryz.prog 48 #[.int .i64 m] w fun e w' => e = .returned (.bool !(bad m)) ∧ w = w' := by
  by_cases h : 0 ≤ m ∧ m ≤ 120
  · rw [show bad m = false by unfold bad; simp; omega]; exact count_yes m w h.1 h.2
  · rw [show bad m = true by unfold bad; simp; omega]; exact count_no m w (by omega)
theorem sumOf_abs {f : GainP → List UInt8} {M : Nat} : ∀ gs : List GainP, (∀ x, x ∈ gs → (val (f x)).natAbs ≤ M) → (sumOf f gs).natAbs ≤ gs.length * M
  | [], _ => by simp [sumOf]
  | x :: r, h => by
    have ih := sumOf_abs r (fun y hy => h y (by simp [hy]))
    have h1 := h x (by simp)
    have e : sumOf f (x :: r) = val (f x) + sumOf f r := by simp [sumOf]
    rw [e, List.length_cons, Nat.succ_mul]
    omega
theorem sumOf_abs_take {f : GainP → List UInt8} {M : Nat} {gs : List GainP} (h : ∀ x, x ∈ gs → (val (f x)).natAbs ≤ M) (h12 : gs.length ≤ 12) (k : Nat) : (sumOf f (gs.take k)).natAbs ≤ 12 * M :=
  Nat.le_trans (sumOf_abs (gs.take k) (fun x hx => h x (List.mem_of_mem_take hx))) (Nat.mul_le_mul_right _ (by rw [List.length_take]; omega))
theorem real_abs {x : GainP} (hs : x.small) : (val x.realT).natAbs ≤ 30000000000000 := by
  have h1 := val_13 hs.2.2.2.2.1
  have h2 := val_13 hs.2.2.2.2.2.1
  have h3 := val_13 hs.2.2.2.2.2.2.1
  unfold GainP.realT
  split
  · rw [val_canon]; unfold GainP.real; omega
  · rw [val_nil]; decide
set_option maxHeartbeats 1000000 in
set_option maxRecDepth 100000 in
theorem rrealized_any (x : GainP) (w : World) (hs : x.small) :
    Calls Tryz.prog 109 #[x.v] w fun e w' => e = .returned (.tuple #[.string ⟨x.realT.toArray⟩, .int .i64 (if x.err = 0 then 0 else 1)]) ∧ Below w.heap.size w w' := by
  have hr : Hid (x.realT = if x.err = 0 then canon x.real else []) := rfl
  obtain ⟨y, hy⟩ : ∃ y, y = (if x.err = 0 then (0 : Int) else 1) := ⟨_, rfl⟩
  rw [← hy]
  have hy := Lib.hid hy
  have HB := Lib.hid (below_alloc w (.cells #[.string ⟨x.cause.toArray⟩, .string ⟨x.lot.toArray⟩, .string ⟨x.ins.toArray⟩, .int .i64 x.acq, .int .i64 x.cls, .string ⟨x.q.toArray⟩, .string ⟨x.p.toArray⟩, .string ⟨x.c.toArray⟩, .string ⟨x.df.toArray⟩, .string ⟨x.rp.toArray⟩] 51))
  have KB := Lib.hid (Box.new0 w #[.string ⟨x.cause.toArray⟩, .string ⟨x.lot.toArray⟩, .string ⟨x.ins.toArray⟩, .int .i64 x.acq, .int .i64 x.cls, .string ⟨x.q.toArray⟩, .string ⟨x.p.toArray⟩, .string ⟨x.c.toArray⟩, .string ⟨x.df.toArray⟩, .string ⟨x.rp.toArray⟩] 51)
  have H := Lib.hid (fun W => rgainCheck_any x W hs)
  have v1 := val_13 hs.2.2.2.2.1
  have v2 := val_13 hs.2.2.2.2.2.1
  have v3 := val_13 hs.2.2.2.2.2.2.1
  have hl1 := sub_len (l := x.p) (m := x.c) (K := 13) hs.2.2.2.2.1 hs.2.2.2.2.2.1
  have H1 := Lib.hid (fun W => RSub_any x.p x.c W (by have := hs.2.2.2.2.1; omega) (by have := hs.2.2.2.2.2.1; omega) (by omega) (by omega))
  have H2 := Lib.hid (fun W => RAdd_any (canon (val x.p - val x.c)) x.df W (by omega) (by have := hs.2.2.2.2.2.2.1; omega) (by rw [val_canon]; omega) (by omega))
  rw [val_canon, show val x.p - val x.c + val x.df = x.real from rfl] at H2
  generalize canon (val x.p - val x.c) = d1 at *
  clear hs hl1 v1 v2 v3
  generalize x.err = z at *
  generalize x.realT = r at *
  generalize canon x.real = rr at *
  simp only [GainP.v, GainP.cs] at *
  go_enter Tryz.func109, Tryz.ntmps109
  go_wp2_with fail
  refine (H.out _).mono ?_
  rintro e w1 ⟨rfl, hb⟩
  have KB := Lib.hid (KB.out.below hb)
  have HB := Lib.hid (below_up HB.out hb)
  clear hb H
  by_cases g : z = 0
  · have hr : Hid (r = rr) := by show _ = _; rw [hr.out, if_pos g]
    have hy : Hid (y = 0) := by show _ = _; rw [hy.out, if_pos g]
    subst g
    go_wp2_with fail
    have q6 : w1.cell? ⟨w.heap.size, 6, none⟩ = some (.string ⟨x.p.toArray⟩) := KB.out.cell 6
    have q7 : w1.cell? ⟨w.heap.size, 7, none⟩ = some (.string ⟨x.c.toArray⟩) := KB.out.cell 7
    have q8 : w1.cell? ⟨w.heap.size, 8, none⟩ = some (.string ⟨x.df.toArray⟩) := KB.out.cell 8
    go_region_held3 (fun W => W.cell? ⟨w.heap.size, 6, none⟩ = some (.string ⟨x.p.toArray⟩) ∧ W.cell? ⟨w.heap.size, 7, none⟩ = some (.string ⟨x.c.toArray⟩) ∧ W.cell? ⟨w.heap.size, 8, none⟩ = some (.string ⟨x.df.toArray⟩)) (first | exact ⟨q6, q7, q8⟩ | go_keep)
      (first | (go_at_call 138; refine (H1.out _).mono ?_; rintro e w2 ⟨rfl, rfl⟩) | (go_at_call 51; refine (H2.out _).mono ?_; rintro e w3 ⟨rfl, rfl⟩))
    go_wp2
    go_ret2
    exact ⟨by rw [hr.out, hy.out]; rfl, below_drewN HB.out _⟩
  · have hr : Hid (r = []) := by show _ = _; rw [hr.out, if_neg g]
    have g' : (z != 0) = true := by simpa using g
    have hy : Hid (y = 1) := by show _ = _; rw [hy.out, if_neg g]
    go_wp2
    go_ret2
    exact ⟨by rw [hr.out, hy.out]; rfl, HB.out⟩
theorem any_bad_none {gs : List GainP} (h : gs.any GainP.bad = false) {x : GainP} (hx : x ∈ gs) : x.err = 0 := by
  rw [List.any_eq_false] at h
  have := h x hx
  unfold GainP.bad at this
  simpa using this
set_option maxHeartbeats 1000000 in
theorem rcheckGains_ok (gs : List GainP) (a : Option Addr) (c : Nat) (w : World) (hn : gs.length ≤ 1000) (hw : Gains w a gs) (hs : ∀ x, x ∈ gs → x.small) (hbad : gs.any GainP.bad = false) :
    Calls Tryz.prog 110 #[.slice a gs.length c] w fun e w' => e = .returned (.int .i64 0) ∧ Below w.heap.size w w' := by
  have HW := Lib.hid hw
  have HS := Lib.hid (fun x (hx : x ∈ gs) => And.intro (hs x hx) (any_bad_none hbad hx))
  clear hw hs hbad
  go_enter Tryz.func110, Tryz.ntmps110
  go_wp2
  go_loopw [3] (fun i W => Hid (Below w.heap.size w W) ∧ ∃ k : Nat, k ≤ gs.length ∧ i = .int .i64 (k : Int)) (fun i _ => gs.length - (intOf i).toNat)
  case atStart => exact ⟨Below.refl _ _, 0, Nat.zero_le _, rfl⟩
  case round =>
    obtain ⟨hB, k, hk, rfl⟩ := hrel
    by_cases hlt : k < gs.length
    · obtain ⟨x, hx⟩ : ∃ x, gs[k]? = some x := ⟨gs[k], List.getElem?_eq_getElem hlt⟩
      obtain ⟨b, off, ha, k0, k1, k2, k3, k4, k5, k6, k7, k8, k9⟩ := (HW.out.below hB.out).addr hx
      subst ha
      have hxs := HS.out x (List.mem_of_getElem? hx)
      have H := Lib.hid (fun W => rgainCheck_any x W hxs.1)
      rw [hxs.2] at H
      clear hx hxs
      simp only [GainP.v, GainP.cs] at H
      go_wp2_with fail
      refine (H.out _).mono ?_
      rintro e w1 ⟨rfl, hb⟩
      have hB := Lib.hid (below_up hB.out hb)
      clear k0 k1 k2 k3 k4 k5 k6 k7 k8 k9 hb
      go_wp2
      go_round
      case rel => exact ⟨hB, k + 1, by omega, by go_num⟩
      case measure => simp [intOf]; omega
    · obtain rfl : k = gs.length := by omega
      go_wp2
      go_ret
      exact ⟨rfl, hB.out⟩
set_option maxHeartbeats 4000000 in
set_option maxRecDepth 100000 in
theorem rtotal_ok (gs : List GainP) (a : Option Addr) (c : Nat) (w : World) (hn : gs.length ≤ 12) (hw : Gains w a gs) (hs : ∀ x, x ∈ gs → x.small) (hbad : gs.any GainP.bad = false) :
    Calls Tryz.prog 66 #[.slice a gs.length c] w fun e w' => e = .returned (.tuple #[.string ⟨(canon (sumOf GainP.p gs)).toArray⟩, .string ⟨(canon (sumOf GainP.c gs)).toArray⟩, .string ⟨(canon (sumOf GainP.df gs)).toArray⟩, .int .i64 0]) ∧ Below w.heap.size w w' := by
  have H1 := Lib.hid (rcheckGains_ok gs a c w (by omega) hw hs hbad)
  have HA1 := Lib.hid (fun k => sumOf_abs_take (f := GainP.p) (M := 10000000000000) (fun x hx => Nat.le_of_lt (val_13 (hs x hx).2.2.2.2.1)) hn k)
  have HA2 := Lib.hid (fun k => sumOf_abs_take (f := GainP.c) (M := 10000000000000) (fun x hx => Nat.le_of_lt (val_13 (hs x hx).2.2.2.2.2.1)) hn k)
  have HA3 := Lib.hid (fun k => sumOf_abs_take (f := GainP.df) (M := 10000000000000) (fun x hx => Nat.le_of_lt (val_13 (hs x hx).2.2.2.2.2.2.1)) hn k)
  have HW := Lib.hid hw
  have HS := Lib.hid hs
  clear hw hs hbad
  go_enter Tryz.func66, Tryz.ntmps66
  go_wp2_with fail
  refine H1.out.mono ?_
  rintro e w1 ⟨rfl, hb⟩
  have HB := Lib.hid hb
  clear hb H1
  go_wp2_with fail
  go_loopw [6, 7, 8, 9] (fun t1 t2 t3 i W => Hid (Below w.heap.size w W) ∧ ∃ k : Nat, k ≤ gs.length ∧ i = .int .i64 (k : Int) ∧ ∃ sa sb sc : List UInt8, t1 = .string ⟨sa.toArray⟩ ∧ t2 = .string ⟨sb.toArray⟩ ∧ t3 = .string ⟨sc.toArray⟩ ∧ Hid (sa = canon (sumOf GainP.p (gs.take k)) ∧ sb = canon (sumOf GainP.c (gs.take k)) ∧ sc = canon (sumOf GainP.df (gs.take k))) ∧ sa.length ≤ 2000 + 2 * k ∧ sb.length ≤ 2000 + 2 * k ∧ sc.length ≤ 2000 + 2 * k) (fun _ _ _ i _ => gs.length - (intOf i).toNat)
  case atStart => exact ⟨HB, 0, Nat.zero_le _, rfl, [], [], [], rfl, rfl, rfl, ⟨rfl, rfl, rfl⟩, by simp, by simp, by simp⟩
  case round =>
    clear HB
    obtain ⟨hB, k, hk, rfl, sa, sb, sc, rfl, rfl, rfl, hst, hl1, hl2, hl3⟩ := hrel
    by_cases hlt : k < gs.length
    · obtain ⟨x, hx⟩ : ∃ x, gs[k]? = some x := ⟨gs[k], List.getElem?_eq_getElem hlt⟩
      obtain ⟨b, off, ha, k0, k1, k2, k3, k4, k5, k6, k7, k8, k9⟩ := (HW.out.below hB.out).addr hx
      subst ha
      obtain ⟨_, _, _, _, f5, f6, f7, _⟩ := HS.out x (List.mem_of_getElem? hx)
      have va : (val sa).natAbs ≤ 12 * 10000000000000 := by rw [hst.out.1, val_canon]; exact HA1.out k
      have vb : (val sb).natAbs ≤ 12 * 10000000000000 := by rw [hst.out.2.1, val_canon]; exact HA2.out k
      have vc : (val sc).natAbs ≤ 12 * 10000000000000 := by rw [hst.out.2.2, val_canon]; exact HA3.out k
      have v5 := val_13 f5
      have v6 := val_13 f6
      have v7 := val_13 f7
      have Ha := Lib.hid (fun W => RAdd_any sa x.p W (by omega) (by omega) (by omega) (by omega))
      have Hb := Lib.hid (fun W => RAdd_any sb x.c W (by omega) (by omega) (by omega) (by omega))
      have Hc := Lib.hid (fun W => RAdd_any sc x.df W (by omega) (by omega) (by omega) (by omega))
      have ha6 := add_len (l := sa) (m := x.p) (K := 2000 + 2 * k) (by omega) (by omega)
      have hb6 := add_len (l := sb) (m := x.c) (K := 2000 + 2 * k) (by omega) (by omega)
      have hc6 := add_len (l := sc) (m := x.df) (K := 2000 + 2 * k) (by omega) (by omega)
      have HS2 : Hid (canon (val sa + val x.p) = canon (sumOf GainP.p (gs.take (k + 1))) ∧ canon (val sb + val x.c) = canon (sumOf GainP.c (gs.take (k + 1))) ∧ canon (val sc + val x.df) = canon (sumOf GainP.df (gs.take (k + 1)))) := by
        show _ ∧ _
        rw [hst.out.1, hst.out.2.1, hst.out.2.2, val_canon, val_canon, val_canon, sumOf_take hx, sumOf_take hx, sumOf_take hx]
        exact ⟨rfl, rfl, rfl⟩
      clear hx f5 f6 f7 hst va vb vc v5 v6 v7 k0 k1 k2 k3 k4 k5 k9
      generalize canon (val sa + val x.p) = na at *
      generalize canon (val sb + val x.c) = nb at *
      generalize canon (val sc + val x.df) = nc at *
      go_wp2_with fail
      refine (Ha.out _).mono ?_
      rintro e w2 ⟨rfl, rfl⟩
      go_wp2_with fail
      refine (Hb.out _).mono ?_
      rintro e w2 ⟨rfl, rfl⟩
      go_wp2_with fail
      refine (Hc.out _).mono ?_
      rintro e w2 ⟨rfl, rfl⟩
      go_wp2
      go_round
      case rel => exact ⟨hB, k + 1, by omega, by go_num, na, nb, nc, rfl, rfl, rfl, HS2, by omega, by omega, by omega⟩
      case measure => simp [intOf]; omega
    · obtain rfl : k = gs.length := by omega
      have hst : Hid (sa = canon (sumOf GainP.p gs) ∧ sb = canon (sumOf GainP.c gs) ∧ sc = canon (sumOf GainP.df gs)) := by have := hst.out; rw [List.take_length] at this; exact this
      go_wp2
      refine bodyPost_ret (results_tmp4 rfl _ _ _) rfl ?_
      exact ⟨by rw [← hst.out.1, ← hst.out.2.1, ← hst.out.2.2]; rfl, hB.out⟩
set_option maxHeartbeats 1000000 in
theorem r23check_any (gs : List GainP) (m : Int) (a : Option Addr) (c : Nat) (w : World) (hn : gs.length ≤ 1000) (hw : Gains w a gs) (hs : ∀ x, x ∈ gs → x.small) :
    Calls Tryz.prog 62 #[.slice a gs.length c, .int .i64 m] w fun e w' => e = .returned (.int .i64 (splitErr gs m)) ∧ Below w.heap.size w w' := by
  have HW := Lib.hid hw
  have HS := Lib.hid hs
  have H2 := Lib.hid (r23count_any m)
  have hr : Hid (splitErr gs m = if gs.any GainP.bad = true then 1 else if bad m = true then 2 else 0) := rfl
  generalize splitErr gs m = r at *
  clear hw hs
  go_enter Tryz.func62, Tryz.ntmps62
  go_wp2
  go_loopw [5] (fun i W => Hid (Below w.heap.size w W) ∧ ∃ k : Nat, k ≤ gs.length ∧ i = .int .i64 (k : Int) ∧ Hid ((gs.take k).any GainP.bad = false)) (fun i _ => gs.length - (intOf i).toNat)
  case atStart => exact ⟨Below.refl _ _, 0, Nat.zero_le _, rfl, rfl⟩
  case round =>
    obtain ⟨hB, k, hk, rfl, hT⟩ := hrel
    by_cases hlt : k < gs.length
    · obtain ⟨x, hx⟩ : ∃ x, gs[k]? = some x := ⟨gs[k], List.getElem?_eq_getElem hlt⟩
      obtain ⟨b, off, ha, k0, k1, k2, k3, k4, k5, k6, k7, k8, k9⟩ := (HW.out.below hB.out).addr hx
      subst ha
      have H := Lib.hid (fun W => rgainCheck_any x W (HS.out x (List.mem_of_getElem? hx)))
      have HX := Lib.hid (fun h => any_hit (p := GainP.bad) hx h)
      have HY := Lib.hid (fun h => any_take_false (p := GainP.bad) hx hT.out h)
      have hbx : Hid (x.bad = decide (x.err ≠ 0)) := rfl
      clear hx
      simp only [GainP.v, GainP.cs] at H
      generalize x.err = z at *
      go_wp2_with fail
      refine (H.out _).mono ?_
      rintro e w1 ⟨rfl, hb⟩
      have hB := Lib.hid (below_up hB.out hb)
      clear k0 k1 k2 k3 k4 k5 k6 k7 k8 k9 hb
      by_cases g : z = 0
      · subst g
        have HY := Lib.hid (HY.out (by rw [hbx.out]; simp))
        go_wp2
        go_round
        case rel => exact ⟨hB, k + 1, by omega, by go_num, HY⟩
        case measure => simp [intOf]; omega
      · have g' : (z != 0) = true := by simpa using g
        have hr : Hid (r = 1) := by show _ = _; rw [hr.out, if_pos (HX.out (by rw [hbx.out]; simp [g]))]
        go_wp2
        go_ret
        exact ⟨ret_int (by rw [hr.out]), hB.out⟩
    · obtain rfl : k = gs.length := by omega
      have hr : Hid (r = if bad m = true then 2 else 0) := by show _ = _; have := hT.out; rw [List.take_length] at this; rw [hr.out, this]; rfl
      go_wp2_with fail
      refine (H2.out _).mono ?_
      rintro e w1 ⟨rfl, rfl⟩
      cases g : bad m
      all_goals
        have hr := hr.out
        rw [g] at hr
        simp at hr
        have hr := Lib.hid hr
        go_wp2
        go_ret
        exact ⟨ret_int (by rw [hr.out]), hB.out⟩
set_option maxHeartbeats 4000000 in
set_option maxRecDepth 100000 in
theorem rsplit_any (gs : List GainP) (m : Int) (a : Option Addr) (c : Nat) (w : World) (hn : gs.length ≤ 1000) (hw : Gains w a gs) (hs : ∀ x, x ∈ gs → x.small) :
    Calls Tryz.prog 23 #[.slice a gs.length c, .int .i64 m] w fun e w' => (∃ a1 c1 a2 c2, e = .returned (.tuple #[.slice a1 (splitRes gs m).1.length c1, .slice a2 (splitRes gs m).2.length c2, .int .i64 (splitErr gs m)]) ∧ Gains w' a1 (splitRes gs m).1 ∧ Gains w' a2 (splitRes gs m).2) ∧ Below w.heap.size w w' := by
  obtain ⟨i0, hi, hz0, hz1, hz2⟩ := info_parts infoGain
  have HW := Lib.hid hw
  have H1 := Lib.hid (fun W hb => r23check_any gs m a c W hn (hw.below hb) hs)
  have hq : Hid (splitRes gs m = if splitErr gs m = 0 then (gs.filter (GainP.long m), gs.filter fun x => !x.long m) else ([], [])) := rfl
  have hlg : Hid (∀ x, GainP.long m x = isLong x.acq x.cls m) := fun _ => rfl
  clear hw hs
  generalize splitRes gs m = rr at *
  generalize splitErr gs m = r at *
  have HB : Hid (Below w.heap.size w ((w.alloc (.cells #[] 51)).alloc (.cells #[] 51))) := below_up (below_alloc w _) (below_alloc _ _)
  have HT : Hid (Two ((w.alloc (.cells #[] 51)).alloc (.cells #[] 51)) w.heap.size 51 10 (.slice (some ⟨w.heap.size, 0, none⟩) 0 0) (.slice (some ⟨(w.alloc (.cells #[] 51)).heap.size, 0, none⟩) 0 0) 0 0 [] []) := ⟨(World.ownsRow_made w #[] 0 (Nat.le_refl _) (by decide) rfl).alloc _, World.ownsRow_made _ #[] 0 (by simp) (by decide) rfl, .inr (.inr (by simp [Value.ownBlock]))⟩
  have hsz : (w.alloc (.cells #[] 51)).heap.size = w.heap.size + 1 := by simp
  rw [hsz] at HT
  clear hsz
  go_enter Tryz.func23, Tryz.ntmps23
  go_wp2_with fail
  generalize (w.alloc (.cells #[] 51)).alloc _ = w0 at *
  refine (H1.out _ HB.out).mono ?_
  rintro e w1 ⟨rfl, hb⟩
  have HB := Lib.hid (below_up HB.out hb)
  have HT := Lib.hid (HT.out.below hb)
  clear hb H1
  by_cases g : r = 0
  case neg =>
    have g' : (r != 0) = true := by simpa using g
    have hq : Hid (rr = ([], [])) := by show _ = _; rw [hq.out, if_neg g]
    go_wp2
    go_ret3
    rw [hq.out]
    exact ⟨⟨_, _, _, _, rfl, .inl rfl, .inl rfl⟩, HB.out⟩
  subst g
  have hq3 : Hid (rr = (gs.filter (GainP.long m), gs.filter fun x => !x.long m)) := by show _ = _; rw [hq.out]; rfl
  clear hq
  generalize GainP.long m = p at *
  go_wp2_with fail
  go_loopw [7, 8, 10] (fun x y i W => Hid (Below w.heap.size w W) ∧ ∃ k : Nat, k ≤ gs.length ∧ i = .int .i64 (k : Int) ∧ Hid (Two W w.heap.size 51 10 x y ((gs.take k).filter p).length ((gs.take k).filter fun x => !p x).length (flat ((gs.take k).filter p)) (flat ((gs.take k).filter fun x => !p x)))) (fun _ _ i _ => gs.length - (intOf i).toNat)
  case atStart => exact ⟨HB, 0, Nat.zero_le _, rfl, HT⟩
  case round =>
    clear HB HT
    obtain ⟨hB, k, hk, rfl, hT⟩ := hrel
    by_cases hlt : k < gs.length
    · obtain ⟨x, hx⟩ : ∃ x, gs[k]? = some x := ⟨gs[k], List.getElem?_eq_getElem hlt⟩
      obtain ⟨b, off, ha, k0, k1, k2, k3, k4, k5, k6, k7, k8, k9⟩ := (HW.out.below hB.out).addr hx
      subst ha
      have HF := Lib.hid (gfilter_take (p := p) hx)
      have HF2 := Lib.hid (gfilter_take (p := fun x => !p x) hx)
      have HN := Lib.hid (And.intro (List.length_filter_le p (gs.take k)) (List.length_filter_le (fun x => !p x) (gs.take k)))
      have HI := Lib.hid (fun W => Is_any x.acq x.cls m W)
      have hlx : Hid (p x = isLong x.acq x.cls m) := hlg.out x
      have hs1 := hB.out.size
      have hHN := HN.out
      simp at hHN
      have hx0 := hx
      clear hx
      have HX := Lib.hid hx0
      go_wp2_with fail
      go_region_held3 (fun W => W.cell? ⟨b, off + k * 10 + 3, none⟩ = some (.int .i64 x.acq) ∧ W.cell? ⟨b, off + k * 10 + 4, none⟩ = some (.int .i64 x.cls)) (first | exact ⟨k3, k4⟩ | go_keep)
        (first | (go_at_call 50; refine (HI.out _).mono ?_; rintro e w2 ⟨rfl, rfl⟩))
      rw [← hlx.out]
      have hB' : Hid (Below w.heap.size w wr.drew) := below_drewN hB.out 1
      have hT' := Lib.hid (hT.out.below (show Below wr.heap.size wr wr.drew from below_drewN (Below.refl _ _) 1))
      clear k0 k1 k2 k3 k4 k5 k6 k7 k8 k9 hB hT
      rename Hid (Below w.heap.size w wr.drew) => hB
      rename Hid (Two _ _ _ _ _ _ _ _ _ _) => hT
      obtain ⟨b', off', ha', k0, k1, k2, k3, k4, k5, k6, k7, k8, k9⟩ := (HW.out.below hB.out).addr HX.out
      injection ha' with ha'
      injection ha' with e1 e2
      subst e1 e2
      have hs1 : w.heap.size ≤ wr.drew.heap.size := hB.out.size
      generalize wr.drew = w1 at *
      clear HX
      cases hpz : p x
      · have HF : Hid ((gs.take (k + 1)).filter p = (gs.take k).filter p) := by show _ = _; rw [HF.out, hpz]; simp
        have HF2 : Hid ((gs.take (k + 1)).filter (fun x => !p x) = (gs.take k).filter (fun x => !p x) ++ [x]) := by show _ = _; rw [HF2.out, hpz]; simp
        clear HN hpz
        generalize (gs.take k).filter p = fs at *
        generalize (gs.take k).filter (fun x => !p x) = ns at *
        go_wp2_with (at_builtin; refine wpList_append_own_at _ rfl _ _ 44 rfl w.heap.size 51 i0 zGain 10 144 Tryz.underlying44 hi hz0 hz1 hz2 rfl (by decide) _ _ _ rfl (hT.out.2.1.alloc _) ⟨w1.heap.size, 0, none⟩ 1 1 (GainP.cs x).toList rfl rfl ?c1 ?c2 ?c3 ?c4 ?c5 ?_)
        case c1 =>
          intro j u hj
          simpa [GainP.cs] using hj
        case c2 => intro u hu; exact gain_one x u (by simpa using hu)
        case c3 => unfold maxLen; omega
        case c4 => omega
        case c5 => first | omega | (simp; omega)
        intro v' w3 hown' hgrow _ hat
        have hat' : v'.ownBlock = u8.ownBlock ∨ v'.ownBlock = some (w1.alloc (.cells #[.string ⟨x.cause.toArray⟩, .string ⟨x.lot.toArray⟩, .string ⟨x.ins.toArray⟩, .int .i64 x.acq, .int .i64 x.cls, .string ⟨x.q.toArray⟩, .string ⟨x.p.toArray⟩, .string ⟨x.c.toArray⟩, .string ⟨x.df.toArray⟩, .string ⟨x.rp.toArray⟩] 51)).heap.size := by simpa using hat
        have hTa := (hT.out.below (below_alloc w1 (.cells #[.string ⟨x.cause.toArray⟩, .string ⟨x.lot.toArray⟩, .string ⟨x.ins.toArray⟩, .int .i64 x.acq, .int .i64 x.cls, .string ⟨x.q.toArray⟩, .string ⟨x.p.toArray⟩, .string ⟨x.c.toArray⟩, .string ⟨x.df.toArray⟩, .string ⟨x.rp.toArray⟩] 51))).swap
        have hT2 := Lib.hid (hTa.step hown' hgrow hat')
        have hB2 := Lib.hid (grown_below hTa.1 hgrow (below_up hB.out (below_alloc w1 _)) (by simp; omega))
        clear hat hat' hgrow hown' hTa
        go_wp2
        go_round
        case rel => exact ⟨hB2, k + 1, by omega, by go_num, by rw [HF.out, HF2.out, flat_append, flat_one, List.length_append]; exact hT2.out.swap⟩
        case measure => simp [intOf]; omega
      · have HF : Hid ((gs.take (k + 1)).filter p = (gs.take k).filter p ++ [x]) := by show _ = _; rw [HF.out, hpz]; simp
        have HF2 : Hid ((gs.take (k + 1)).filter (fun x => !p x) = (gs.take k).filter (fun x => !p x)) := by show _ = _; rw [HF2.out, hpz]; simp
        clear HN hpz
        generalize (gs.take k).filter p = fs at *
        generalize (gs.take k).filter (fun x => !p x) = ns at *
        go_wp2_with (at_builtin; refine wpList_append_own_at _ rfl _ _ 44 rfl w.heap.size 51 i0 zGain 10 144 Tryz.underlying44 hi hz0 hz1 hz2 rfl (by decide) _ _ _ rfl (hT.out.1.alloc _) ⟨w1.heap.size, 0, none⟩ 1 1 (GainP.cs x).toList rfl rfl ?c1 ?c2 ?c3 ?c4 ?c5 ?_)
        case c1 =>
          intro j u hj
          simpa [GainP.cs] using hj
        case c2 => intro u hu; exact gain_one x u (by simpa using hu)
        case c3 => unfold maxLen; omega
        case c4 => omega
        case c5 => first | omega | (simp; omega)
        intro v' w3 hown' hgrow _ hat
        have hat' : v'.ownBlock = u7.ownBlock ∨ v'.ownBlock = some (w1.alloc (.cells #[.string ⟨x.cause.toArray⟩, .string ⟨x.lot.toArray⟩, .string ⟨x.ins.toArray⟩, .int .i64 x.acq, .int .i64 x.cls, .string ⟨x.q.toArray⟩, .string ⟨x.p.toArray⟩, .string ⟨x.c.toArray⟩, .string ⟨x.df.toArray⟩, .string ⟨x.rp.toArray⟩] 51)).heap.size := by simpa using hat
        have hTa := (hT.out.below (below_alloc w1 (.cells #[.string ⟨x.cause.toArray⟩, .string ⟨x.lot.toArray⟩, .string ⟨x.ins.toArray⟩, .int .i64 x.acq, .int .i64 x.cls, .string ⟨x.q.toArray⟩, .string ⟨x.p.toArray⟩, .string ⟨x.c.toArray⟩, .string ⟨x.df.toArray⟩, .string ⟨x.rp.toArray⟩] 51)))
        have hT2 := Lib.hid (hTa.step hown' hgrow hat')
        have hB2 := Lib.hid (grown_below hTa.1 hgrow (below_up hB.out (below_alloc w1 _)) (by simp; omega))
        clear hat hat' hgrow hown' hTa
        go_wp2
        go_round
        case rel => exact ⟨hB2, k + 1, by omega, by go_num, by rw [HF.out, HF2.out, flat_append, flat_one, List.length_append]; exact hT2.out⟩
        case measure => simp [intOf]; omega
    · obtain rfl : k = gs.length := by omega
      have hT := hT.out
      rw [List.take_length] at hT
      obtain ⟨a1, c1, e1, R1⟩ := row_of_owns hT.1
      obtain ⟨a2, c2, e2, R2⟩ := row_of_owns hT.2.1
      subst e1 e2
      have G1 := Lib.hid (gains_of_row R1)
      have G2 := Lib.hid (gains_of_row R2)
      clear R1 R2 hT
      go_wp2
      go_ret3
      rw [hq3.out]
      exact ⟨⟨a1, c1, a2, c2, rfl, G1.out, G2.out⟩, hB.out⟩
end Go.Proofs.YthlpfefckhdpiaaGreatDoor
