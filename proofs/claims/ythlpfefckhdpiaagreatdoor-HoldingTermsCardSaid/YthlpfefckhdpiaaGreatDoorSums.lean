/- disposal.Realized, holding.sum, Sums, Terms, disposal.Total: what they return. -/
import Derived.Test.YthlpfefckhdpiaaGreatDoorSplit
import Derived.Test.YthlpfefckhdpiaaGreatDoorRegion
namespace Go.Proofs.YthlpfefckhdpiaaGreatDoor
open Go.RowKit Num Dt
attribute [local go_sem] str_append str_extract str_size setCell_drewN

def GainP.real (x : GainP) : Int := val x.p - val x.c + val x.df
def GainP.realT (x : GainP) : List UInt8 := if x.err = 0 then canon x.real else []
set_option maxHeartbeats 1000000 in
set_option maxRecDepth 100000 in
theorem realized_any (x : GainP) (w : World) (hE : Env w) (hs : x.small) :
    Calls Tryz.prog 21 #[x.v] w fun e w' => e = .returned (.tuple #[.string ⟨x.realT.toArray⟩, .int .i64 (if x.err = 0 then 0 else 1)]) ∧ Below w.heap.size w w' := by
  have hr : Hid (x.realT = if x.err = 0 then canon x.real else []) := rfl
  obtain ⟨y, hy⟩ : ∃ y, y = (if x.err = 0 then (0 : Int) else 1) := ⟨_, rfl⟩
  rw [← hy]
  have hy := Lib.hid hy
  have HB := Lib.hid (below_alloc w (.cells #[.string ⟨x.cause.toArray⟩, .string ⟨x.lot.toArray⟩, .string ⟨x.ins.toArray⟩, .int .i64 x.acq, .int .i64 x.cls, .string ⟨x.q.toArray⟩, .string ⟨x.p.toArray⟩, .string ⟨x.c.toArray⟩, .string ⟨x.df.toArray⟩, .string ⟨x.rp.toArray⟩] 51))
  have KB := Lib.hid (Box.new0 w #[.string ⟨x.cause.toArray⟩, .string ⟨x.lot.toArray⟩, .string ⟨x.ins.toArray⟩, .int .i64 x.acq, .int .i64 x.cls, .string ⟨x.q.toArray⟩, .string ⟨x.p.toArray⟩, .string ⟨x.c.toArray⟩, .string ⟨x.df.toArray⟩, .string ⟨x.rp.toArray⟩] 51)
  have H := Lib.hid (fun W hW => gainCheck_any x W hW hs)
  have hl1 := sub_len (l := x.p) (m := x.c) (K := 13) hs.2.2.2.2.1 hs.2.2.2.2.2.1
  have HE := Lib.hid hE
  have H1 := Lib.hid (fun W hW => Sub_any x.p x.c W hW (by have := hs.2.2.2.2.1; omega) (by have := hs.2.2.2.2.2.1; omega))
  have H2 := Lib.hid (fun W hW => Add_any (canon (val x.p - val x.c)) x.df W hW (by omega) (by have := hs.2.2.2.2.2.2.1; omega))
  rw [val_canon, show val x.p - val x.c + val x.df = x.real from rfl] at H2
  generalize canon (val x.p - val x.c) = d1 at *
  clear hE hs hl1
  generalize x.err = z at *
  generalize x.realT = r at *
  generalize canon x.real = rr at *
  simp only [GainP.v, GainP.cs] at *
  go_enter Tryz.func21, Tryz.ntmps21
  go_wp2_with fail
  refine (H.out _ (HE.out.below HB.out)).mono ?_
  rintro e w1 ⟨rfl, hb⟩
  have KB := Lib.hid (KB.out.below hb)
  have HB := Lib.hid (below_up HB.out hb)
  clear hb H
  by_cases g : z = 0
  · have hr : Hid (r = rr) := by show _ = _; rw [hr.out, if_pos g]
    have hy : Hid (y = 0) := by show _ = _; rw [hy.out, if_pos g]
    subst g
    go_wp2_with fail
    have q6 : w1.cell? ⟨w.heap.size, 6, none⟩ = some (.string ⟨x.p.toArray⟩) := KB.out.cell 6
    have q7 : w1.cell? ⟨w.heap.size, 7, none⟩ = some (.string ⟨x.c.toArray⟩) := KB.out.cell 7
    have q8 : w1.cell? ⟨w.heap.size, 8, none⟩ = some (.string ⟨x.df.toArray⟩) := KB.out.cell 8
    go_region_held3 (fun W => W.cell? ⟨w.heap.size, 6, none⟩ = some (.string ⟨x.p.toArray⟩) ∧ W.cell? ⟨w.heap.size, 7, none⟩ = some (.string ⟨x.c.toArray⟩) ∧ W.cell? ⟨w.heap.size, 8, none⟩ = some (.string ⟨x.df.toArray⟩)) (first | exact ⟨q6, q7, q8⟩ | exact ⟨KB2.cell 6, KB2.cell 7, KB2.cell 8⟩ | exact ⟨KB3.cell 6, KB3.cell 7, KB3.cell 8⟩ | go_keep)
      (first | (go_at_call 32; refine (H1.out _ (HE.out.below (below_drewN HB.out _))).mono ?_; rintro e w2 ⟨rfl, hb2⟩; have HB2 := below_up (below_drewN HB.out 1) hb2; have KB2 := KB.out.below (below_up (below_drewN (Below.refl _ _) 1) hb2)) | (go_at_call 15; refine (H2.out _ (HE.out.below HB2)).mono ?_; rintro e w3 ⟨rfl, hb3⟩; have HB3 := below_up HB2 hb3; have KB3 := KB2.below hb3))
    go_wp2
    go_ret2
    exact ⟨by rw [hr.out, hy.out]; rfl, HB3⟩
  · have hr : Hid (r = []) := by show _ = _; rw [hr.out, if_neg g]
    have g' : (z != 0) = true := by simpa using g
    have hy : Hid (y = 1) := by show _ = _; rw [hy.out, if_neg g]
    go_wp2
    go_ret2
    exact ⟨by rw [hr.out, hy.out]; rfl, HB.out⟩
theorem sums1_any (x : GainP) (w : World) (hE : Env w) (hs : x.small) :
    Calls Tryz.prog 59 #[x.v] w fun e w' => e = .returned (.string ⟨x.realT.toArray⟩) ∧ Below w.heap.size w w' := by
  have H := Lib.hid (realized_any x (w.alloc (.cells x.cs 51)) (hE.alloc _) hs)
  have HB := Lib.hid (below_alloc w (.cells #[.string ⟨x.cause.toArray⟩, .string ⟨x.lot.toArray⟩, .string ⟨x.ins.toArray⟩, .int .i64 x.acq, .int .i64 x.cls, .string ⟨x.q.toArray⟩, .string ⟨x.p.toArray⟩, .string ⟨x.c.toArray⟩, .string ⟨x.df.toArray⟩, .string ⟨x.rp.toArray⟩] 51))
  clear hE hs
  generalize x.realT = r at *
  generalize (if x.err = 0 then (0 : Int) else 1) = z at *
  simp only [GainP.v, GainP.cs] at *
  go_enter Tryz.func59, Tryz.ntmps59
  go_wp2_with fail
  refine H.out.mono ?_
  rintro e w1 ⟨rfl, hb⟩
  go_wp2
  go_ret
  exact ⟨rfl, below_up HB.out hb⟩
theorem terms1_any (x : GainP) (w : World) :
    Calls Tryz.prog 64 #[x.v] w fun e w' => e = .returned (.string ⟨x.p.toArray⟩) ∧ Below w.heap.size w w' := by
  have HB := Lib.hid (below_alloc w (.cells #[.string ⟨x.cause.toArray⟩, .string ⟨x.lot.toArray⟩, .string ⟨x.ins.toArray⟩, .int .i64 x.acq, .int .i64 x.cls, .string ⟨x.q.toArray⟩, .string ⟨x.p.toArray⟩, .string ⟨x.c.toArray⟩, .string ⟨x.df.toArray⟩, .string ⟨x.rp.toArray⟩] 51))
  simp only [GainP.v, GainP.cs] at *
  go_enter Tryz.func64, Tryz.ntmps64
  go_wp2
  go_ret
  exact ⟨rfl, HB.out⟩
theorem terms2_any (x : GainP) (w : World) :
    Calls Tryz.prog 65 #[x.v] w fun e w' => e = .returned (.string ⟨x.c.toArray⟩) ∧ Below w.heap.size w w' := by
  have HB := Lib.hid (below_alloc w (.cells #[.string ⟨x.cause.toArray⟩, .string ⟨x.lot.toArray⟩, .string ⟨x.ins.toArray⟩, .int .i64 x.acq, .int .i64 x.cls, .string ⟨x.q.toArray⟩, .string ⟨x.p.toArray⟩, .string ⟨x.c.toArray⟩, .string ⟨x.df.toArray⟩, .string ⟨x.rp.toArray⟩] 51))
  simp only [GainP.v, GainP.cs] at *
  go_enter Tryz.func65, Tryz.ntmps65
  go_wp2
  go_ret
  exact ⟨rfl, HB.out⟩
def sumOf (f : GainP → List UInt8) (gs : List GainP) : Int := (gs.map (fun x => val (f x))).sum
theorem sumOf_take {f : GainP → List UInt8} {gs : List GainP} {k : Nat} {x : GainP} (hx : gs[k]? = some x) : sumOf f (gs.take (k + 1)) = sumOf f (gs.take k) + val (f x) := by
  unfold sumOf; rw [List.take_add_one, hx]; simp
set_option maxHeartbeats 2000000 in
set_option maxRecDepth 100000 in
theorem sum_any (g : Nat) (f : GainP → List UInt8) (hen : ∀ (args : Array Value) (w : World), (callFunc g args).run Tryz.prog w = .ok (.enter g args) w) (gs : List GainP) (a : Option Addr) (cap : Nat) (w : World) (hE : Env w)
    (hp : ∀ (x : GainP) W, x ∈ gs → Env W → Calls Tryz.prog g #[x.v] W fun e w' => e = .returned (.string ⟨(f x).toArray⟩) ∧ Below W.heap.size W w') (hf : ∀ x, x ∈ gs → (f x).length ≤ 2000)
    (hw : Gains w a gs) (hl : gs.length ≤ 1000000) :
    Calls Tryz.prog 60 #[.slice a gs.length cap, .func (.func g) #[] #[]] w fun e w' => e = .returned (.string ⟨(canon (sumOf f gs)).toArray⟩) ∧ Below w.heap.size w w' := by
  have HP := Lib.hid hp
  have HW := Lib.hid hw
  have HE := Lib.hid hE
  have HF := Lib.hid hf
  have H0 := Lib.hid (Of_any 0 (by decide) (by decide) w hE)
  rw [canon_zero] at H0
  clear hp hw hE hf
  go_enter Tryz.func60, Tryz.ntmps60
  go_wp2_with fail
  refine H0.out.mono ?_
  rintro e w1 ⟨rfl, hb⟩
  have HB := Lib.hid hb
  clear hb H0
  go_wp2_with fail
  go_loopw [5, 11] (fun t i W => Hid (Below w.heap.size w W) ∧ ∃ k : Nat, k ≤ gs.length ∧ i = .int .i64 (k : Int) ∧ ∃ st : List UInt8, t = .string ⟨st.toArray⟩ ∧ Hid (st = canon (sumOf f (gs.take k))) ∧ st.length ≤ 2000 + 2 * k) (fun _ i _ => gs.length - (intOf i).toNat)
  case atStart => exact ⟨HB, 0, Nat.zero_le _, rfl, [], rfl, rfl, by simp⟩
  case round =>
    clear HB
    obtain ⟨hB, k, hk, rfl, st, rfl, hst, hsl⟩ := hrel
    by_cases hlt : k < gs.length
    · obtain ⟨x, hx⟩ : ∃ x, gs[k]? = some x := ⟨gs[k], List.getElem?_eq_getElem hlt⟩
      obtain ⟨b, off, ha, k0, k1, k2, k3, k4, k5, k6, k7, k8, k9⟩ := (HW.out.below hB.out).addr hx
      subst ha
      have hxm := List.mem_of_getElem? hx
      have hfx := HF.out x hxm
      have HP := Lib.hid (fun W h => HP.out x W hxm h)
      have HA := Lib.hid (fun W hW => Add_any st (f x) W hW (by omega) (by omega))
      have hl6 := add_len (l := st) (m := f x) (K := 2000 + 2 * k) (by omega) (by omega)
      have HS2 : Hid (canon (val st + val (f x)) = canon (sumOf f (gs.take (k + 1)))) := by
        show _ = _
        rw [hst.out, val_canon, sumOf_take hx]
      have HB := Lib.hid (below_up hB.out (below_alloc wr (.cells #[.string ⟨x.cause.toArray⟩, .string ⟨x.lot.toArray⟩, .string ⟨x.ins.toArray⟩, .int .i64 x.acq, .int .i64 x.cls, .string ⟨x.q.toArray⟩, .string ⟨x.p.toArray⟩, .string ⟨x.c.toArray⟩, .string ⟨x.df.toArray⟩, .string ⟨x.rp.toArray⟩] 51)))
      clear hx hxm
      simp only [GainP.v, GainP.cs] at HP
      go_wp2_with fail
      generalize wr.alloc _ = w0 at *
      refine (HP.out _ (HE.out.below HB.out)).mono ?_
      rintro e w2 ⟨rfl, hb⟩
      have HB := Lib.hid (below_up HB.out hb)
      clear k0 k1 k2 k3 k4 k5 k6 k7 k8 k9 hb
      go_wp2_with fail
      refine (HA.out _ (HE.out.below HB.out)).mono ?_
      rintro e w3 ⟨rfl, hb⟩
      have HB := Lib.hid (below_up HB.out hb)
      clear hb HA
      go_wp2
      go_round
      case rel => exact ⟨HB, k + 1, by omega, by go_num, _, rfl, HS2, by omega⟩
      case measure => simp [intOf]; omega
    · obtain rfl : k = gs.length := by omega
      have hst : Hid (st = canon (sumOf f gs)) := by show _ = _; rw [hst.out, List.take_length]
      go_wp2
      go_ret
      exact ⟨ret_val (by rw [hst.out]; rfl), hB.out⟩
theorem realT_len {x : GainP} (hs : x.small) : x.realT.length ≤ 2000 := by
  unfold GainP.realT GainP.real
  split
  · have h1 := sub_len (l := x.p) (m := x.c) (K := 13) hs.2.2.2.2.1 hs.2.2.2.2.2.1
    have h2 := add_len (l := canon (val x.p - val x.c)) (m := x.df) (K := 15) h1 (by have := hs.2.2.2.2.2.2.1; omega)
    rw [val_canon] at h2
    omega
  · simp
noncomputable def sumsRes (gs : List GainP) (m : Int) : List UInt8 × List UInt8 := if splitErr gs m = 0 then (canon (sumOf GainP.realT (splitRes gs m).1), canon (sumOf GainP.realT (splitRes gs m).2)) else ([], [])
theorem splitRes_mem (gs : List GainP) (m : Int) : (∀ x, x ∈ (splitRes gs m).1 → x ∈ gs) ∧ (∀ x, x ∈ (splitRes gs m).2 → x ∈ gs) ∧ (splitRes gs m).1.length ≤ gs.length ∧ (splitRes gs m).2.length ≤ gs.length := by
  unfold splitRes
  split
  · exact ⟨fun x hx => (List.mem_filter.1 hx).1, fun x hx => (List.mem_filter.1 hx).1, List.length_filter_le _ _, List.length_filter_le _ _⟩
  · simp
set_option maxHeartbeats 2000000 in
set_option maxRecDepth 100000 in
theorem sums_any (gs : List GainP) (m : Int) (a : Option Addr) (c : Nat) (w : World) (hE : Env w) (hn : gs.length ≤ 1000) (hw : Gains w a gs) (hs : ∀ x, x ∈ gs → x.small) :
    Calls Tryz.prog 20 #[.slice a gs.length c, .int .i64 m] w fun e w' => e = .returned (.tuple #[.string ⟨(sumsRes gs m).1.toArray⟩, .string ⟨(sumsRes gs m).2.toArray⟩, .int .i64 (splitErr gs m)]) ∧ Below w.heap.size w w' := by
  have H1 := Lib.hid (split_any gs m a c w hE hn hw hs)
  have hm := splitRes_mem gs m
  have HS : ∀ (l : List GainP), (∀ x, x ∈ l → x ∈ gs) → l.length ≤ gs.length → Hid (∀ (a : Option Addr) (c : Nat) W, Env W → Gains W a l → Calls Tryz.prog 60 #[.slice a l.length c, .func (.func 59) #[] #[]] W fun e w' => e = .returned (.string ⟨(canon (sumOf GainP.realT l)).toArray⟩) ∧ Below W.heap.size W w') := fun l hl hle a c W hW hg =>
    sum_any 59 GainP.realT (fun args w => MuLone.run_callFunc_enter Tryz.func59 (by kernel_rfl) rfl args w) l a c W hW (fun x W hx hW => sums1_any x W hW (hs x (hl x hx))) (fun x hx => realT_len (hs x (hl x hx))) hg (by omega)
  have HS1 := HS _ hm.1 hm.2.2.1
  have HS2 := HS _ hm.2.1 hm.2.2.2
  have HE := Lib.hid hE
  have hq : Hid (sumsRes gs m = if splitErr gs m = 0 then (canon (sumOf GainP.realT (splitRes gs m).1), canon (sumOf GainP.realT (splitRes gs m).2)) else ([], [])) := rfl
  clear HS hm hE hw hs
  generalize sumsRes gs m = rr at *
  generalize splitRes gs m = sp at *
  generalize splitErr gs m = z at *
  obtain ⟨l1, l2⟩ := sp
  simp only at *
  generalize canon (sumOf GainP.realT l1) = s1 at *
  generalize canon (sumOf GainP.realT l2) = s2 at *
  go_enter Tryz.func20, Tryz.ntmps20
  go_wp2_with fail
  refine H1.out.mono ?_
  rintro e w1 ⟨⟨a1, c1, a2, c2, rfl, G1, G2⟩, hb⟩
  have G1 := Lib.hid G1
  have G2 := Lib.hid G2
  have HB := Lib.hid hb
  clear hb H1
  by_cases g : z = 0
  · subst g
    have hq : Hid (rr = (s1, s2)) := by show _ = _; rw [hq.out]; rfl
    go_wp2_with fail
    refine (HS1.out _ _ _ (HE.out.below HB.out) G1.out).mono ?_
    rintro e w2 ⟨rfl, hb⟩
    have G2 := Lib.hid (G2.out.below hb)
    have HB := Lib.hid (below_up HB.out hb)
    clear hb
    go_wp2_with fail
    refine (HS2.out _ _ _ (HE.out.below HB.out) G2.out).mono ?_
    rintro e w3 ⟨rfl, hb⟩
    have HB := Lib.hid (below_up HB.out hb)
    clear hb
    go_wp2
    go_ret3
    exact ⟨by rw [hq.out]; rfl, HB.out⟩
  · have g' : (z != 0) = true := by simpa using g
    have hq : Hid (rr = ([], [])) := by show _ = _; rw [hq.out, if_neg g]
    go_wp2
    go_ret3
    exact ⟨by rw [hq.out]; rfl, HB.out⟩
end Go.Proofs.YthlpfefckhdpiaaGreatDoor
