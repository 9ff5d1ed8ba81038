/- The law of the parts: it returns true. -/
import Derived.Test.YthlpfefckhdpiaaGreatDoorFine
import Derived.Test.YthlpfefckhdpiaaGreatDoorAgesLaw
namespace Go.Proofs.YthlpfefckhdpiaaGreatDoor
open Go.RowKit Num Dt
attribute [local go_sem] str_append str_extract str_size setCell_drewN

theorem filter_get {p : GainP → Bool} {gs : List GainP} {k : Nat} {x : GainP} (hx : gs[k]? = some x) (hp : p x = true) : (gs.filter p)[((gs.take k).filter p).length]? = some x := by
  have e : gs = gs.take k ++ x :: gs.drop (k + 1) := by rw [← drop_at hx, List.take_append_drop]
  have e2 : gs.filter p = (gs.take k).filter p ++ x :: (gs.drop (k + 1)).filter p := by
    conv => lhs; rw [e]
    rw [List.filter_append, List.filter_cons_of_pos hp]
  rw [e2, List.getElem?_append_right (Nat.le_refl _)]
  simp
theorem sumOf_filter (f : GainP → List UInt8) (p : GainP → Bool) : ∀ gs : List GainP, sumOf f (gs.filter p) + sumOf f (gs.filter fun x => !p x) = sumOf f gs
  | [] => rfl
  | x :: r => by
    have ih := sumOf_filter f p r
    unfold sumOf at *
    cases h : p x <;> simp [h] at * <;> omega
theorem filter_len2 (p : GainP → Bool) : ∀ gs : List GainP, (gs.filter p).length + (gs.filter fun x => !p x).length = gs.length
  | [] => rfl
  | x :: r => by
    have ih := filter_len2 p r
    cases h : p x <;> simp [h] at * <;> omega
theorem err_gdays {x : GainP} (h : x.err = 0) : vday x.acq = true ∧ vday x.cls = true ∧ x.acq ≤ x.cls := by
  unfold GainP.err at h
  split at h
  · cases h
  · split at h
    · cases h
    · rename_i g
      split at h
      · cases h
      · rename_i g2
        cases h1 : vday x.acq <;> cases h2 : vday x.cls <;> simp [h1, h2] at g
        exact ⟨rfl, rfl, by omega⟩
theorem bad_err {gs : List GainP} (h : gs.any GainP.bad = false) : ∀ x, x ∈ gs → x.err = 0 := by
  intro x hx
  rw [List.any_eq_false] at h
  have := h x hx
  unfold GainP.bad at this
  simpa using this
theorem canon_sumlen {gs : List GainP} {f : GainP → List UInt8} : (∀ x, x ∈ gs → (f x).length ≤ 2000) → (canon (sumOf f gs)).length ≤ 2000 + 2 * gs.length := by
  induction gs with
  | nil => intro _; show (canon 0).length ≤ _; rw [canon_zero]; simp
  | cons x r ih =>
    intro hf
    have h1 := ih (fun y hy => hf y (by simp [hy]))
    have h2 := hf x (by simp)
    have h3 := add_len (l := f x) (m := canon (sumOf f r)) (K := 2000 + 2 * r.length) (by omega) h1
    rw [val_canon] at h3
    rw [show sumOf f (x :: r) = val (f x) + sumOf f r by simp [sumOf], List.length_cons]
    omega
set_option maxHeartbeats 8000000 in
set_option maxRecDepth 100000 in
theorem holdingPartsLaw_any (gs : List GainP) (m8 : Int) (a : Option Addr) (c : Nat) (w : World) (hE : Env w) (hn : gs.length ≤ 9223372036854775807) (_hc : gs.length ≤ c) (hw : Gains w a gs) (hs : ∀ x, x ∈ gs → x.fits) (hm0 : 0 ≤ m8) (hm1 : m8 ≤ 255) :
    Calls Tryz.prog 5 #[.slice a gs.length c, .int .u8 m8] w fun e w' => e = .returned (.bool true) ∧ Below w.heap.size w w' := by
  have hm : Hid (0 ≤ m8 % 121 ∧ m8 % 121 ≤ 120) := by show _ ∧ _; omega
  have HA := Lib.hid awake_any
  have H1 := Lib.hid (fine_any gs a c w hE hn hw hs)
  have HW := Lib.hid hw
  have HE := Lib.hid hE
  clear hw hE hs
  go_enter Tryz.func5, Tryz.ntmps5
  go_wp2_with fail
  generalize m8 % 121 = m at *
  refine H1.out.mono ?_
  rintro e w1 ⟨rfl, hb⟩
  have HB := Lib.hid hb
  clear hb H1
  cases hf : fine gs
  case false =>
    go_wp2_with fail
    refine (HA.out _).mono ?_
    rintro e w2 ⟨rfl, hb⟩
    go_wp2
    go_ret
    exact ⟨rfl, below_up HB.out hb⟩
  obtain ⟨hg, hbad⟩ : ggreats gs = false ∧ gs.any GainP.bad = false := by
    unfold fine at hf
    cases h1 : ggreats gs <;> cases h2 : gs.any GainP.bad <;> simp [h1, h2] at hf
    exact ⟨rfl, rfl⟩
  obtain ⟨hsm, hn12⟩ := fine_small hg
  have herr := bad_err hbad
  have hbm : bad m = false := by have := hm.out; unfold bad; simp; omega
  have hse : splitErr gs m = 0 := by unfold splitErr; rw [hbad, hbm]; rfl
  have hsr : splitRes gs m = (gs.filter (GainP.long m), gs.filter fun x => !x.long m) := by unfold splitRes; rw [if_pos hse]
  have hss : sumsRes gs m = (canon (sumOf GainP.realT (gs.filter (GainP.long m))), canon (sumOf GainP.realT (gs.filter fun x => !x.long m))) := by unfold sumsRes; rw [if_pos hse, hsr]
  have H2 := Lib.hid (fun W (hb : Below w.heap.size w W) => split_any gs m a c W (HE.out.below hb) (by omega) (HW.out.below hb) hsm)
  have H3 := Lib.hid (fun W (hb : Below w.heap.size w W) => sums_any gs m a c W (HE.out.below hb) (by omega) (HW.out.below hb) hsm)
  rw [hse, hsr] at H2
  rw [hse, hss] at H3
  simp only at H2 H3
  have hlen : Hid ((gs.filter (GainP.long m)).length + (gs.filter fun x => !x.long m).length = gs.length) := by
    exact filter_len2 (GainP.long m) gs
  have hf1 : ∀ x, x ∈ gs.filter (GainP.long m) → x.realT.length ≤ 2000 := fun x hx => realT_len (hsm x (List.mem_filter.1 hx).1)
  have hf2 : ∀ x, x ∈ (gs.filter fun x => !x.long m) → x.realT.length ≤ 2000 := fun x hx => realT_len (hsm x (List.mem_filter.1 hx).1)
  have hl1 := canon_sumlen hf1
  have hl2 := canon_sumlen hf2
  have hle1 := List.length_filter_le (GainP.long m) gs
  have hle2 := List.length_filter_le (fun x => !GainP.long m x) gs
  have H4 := Lib.hid (fun W hW => Add_any (canon (sumOf GainP.realT (gs.filter (GainP.long m)))) (canon (sumOf GainP.realT (gs.filter fun x => !x.long m))) W hW (by omega) (by omega))
  rw [val_canon, val_canon, sumOf_filter] at H4
  have HFG := Lib.hid (fun (p : GainP → Bool) k x (hx : gs[k]? = some x) hp => filter_get (p := p) hx hp)
  have HFT := Lib.hid (fun (p : GainP → Bool) k x (hx : gs[k]? = some x) => gfilter_take (p := p) hx)
  have HSM := Lib.hid (And.intro hsm herr)
  clear hf hg hbad hsm herr hbm hse hsr hss hf1 hf2 hl1 hl2
  have HF1 := Lib.hid (fun k x hx hp => HFG.out (GainP.long m) k x hx hp)
  have HF2 := Lib.hid (fun k x hx hp => HFG.out (fun x => !x.long m) k x hx hp)
  have hsum : Hid (∀ s, s = canon (sumOf GainP.realT gs) → True) := fun _ _ => trivial
  obtain ⟨s1, hs1⟩ : ∃ s, s = canon (sumOf GainP.realT (gs.filter (GainP.long m))) := ⟨_, rfl⟩
  obtain ⟨s2, hs2⟩ : ∃ s, s = canon (sumOf GainP.realT (gs.filter fun x => !x.long m)) := ⟨_, rfl⟩
  rw [← hs1, ← hs2] at H3 H4
  clear hs1 hs2 HFG hsum
  generalize gs.filter (GainP.long m) = L1 at *
  generalize (gs.filter fun x => !x.long m) = L2 at *
  have hwl : wrap64 ((L1.length : Int) + L2.length) = gs.length := by have := hlen.out; unfold wrap64; omega
  have hwl2 : ((L1.length : Int) + L2.length) = gs.length := by have := hlen.out; omega
  go_wp2_with fail
  refine (H2.out _ HB.out).mono ?_
  rintro e w2 ⟨⟨a1, c1, a2, c2, rfl, G1, G2⟩, hb⟩
  have HB := Lib.hid (below_up HB.out hb)
  have G := Lib.hid (And.intro G1 G2)
  clear hb G1 G2 H2
  go_wp2_with fail
  refine (H3.out _ HB.out).mono ?_
  rintro e w3 ⟨rfl, hb⟩
  have HB := Lib.hid (below_up HB.out hb)
  have G := Lib.hid (And.intro (G.out.1.below hb) (G.out.2.below hb))
  clear hb H3
  go_wp2_with fail
  go_loopw [12, 13, 14, 60] (fun i1 i2 t i W => Hid (Below w.heap.size w W) ∧ Hid (Gains W a1 L1 ∧ Gains W a2 L2) ∧ ∃ k : Nat, k ≤ gs.length ∧ i = .int .i64 (k : Int) ∧ ∃ n1 n2 : Nat, i1 = .int .i64 (n1 : Int) ∧ i2 = .int .i64 (n2 : Int) ∧ n1 ≤ k ∧ n2 ≤ k ∧ Hid (n1 = ((gs.take k).filter (GainP.long m)).length) ∧ Hid (n2 = ((gs.take k).filter (fun x => !x.long m)).length) ∧ ∃ st : List UInt8, t = .string ⟨st.toArray⟩ ∧ Hid (st = canon (sumOf GainP.realT (gs.take k))) ∧ st.length ≤ 2000 + 2 * k) (fun _ _ _ i _ => gs.length - (intOf i).toNat)
  case atStart => exact ⟨HB, G, 0, Nat.zero_le _, rfl, 0, 0, rfl, rfl, Nat.le_refl _, Nat.le_refl _, rfl, rfl, [], rfl, rfl, by simp⟩
  case round =>
    clear HB G
    obtain ⟨hB, G, k, hk, rfl, n1, n2, rfl, rfl, hn1, hn2, hq1, hq2, st, rfl, hst, hsl⟩ := hrel
    by_cases hlt : k < gs.length
    · obtain ⟨x, hx⟩ : ∃ x, gs[k]? = some x := ⟨gs[k], List.getElem?_eq_getElem hlt⟩
      obtain ⟨b, off, ha, k0, k1, k2, k3, k4, k5, k6, k7, k8, k9⟩ := (HW.out.below hB.out).addr hx
      subst ha
      have hxm := List.mem_of_getElem? hx
      have hxs := HSM.out.1 x hxm
      have hxe := HSM.out.2 x hxm
      have hdays := err_gdays hxe
      have HLg := Lib.hid (fun W => Long_any x.acq x.cls m W)
      rw [longRes_ok hm.out.1 hm.out.2 hdays.1 hdays.2.1 hdays.2.2] at HLg
      have HR := Lib.hid (fun W hW => realized_any x W hW hxs)
      rw [if_pos hxe] at HR
      have hrl := realT_len hxs
      have HAd := Lib.hid (fun W hW => Add_any st x.realT W hW (by omega) (by omega))
      have hl6 := add_len (l := st) (m := x.realT) (K := 2000 + 2 * k) (by omega) (by omega)
      have HS2 : Hid (canon (val st + val x.realT) = canon (sumOf GainP.realT (gs.take (k + 1)))) := by
        show _ = _
        rw [hst.out, val_canon, sumOf_take hx]
      have HT1 := Lib.hid (HFT.out (GainP.long m) k x hx)
      have HT2 := Lib.hid (HFT.out (fun x => !x.long m) k x hx)
      have HG1 := Lib.hid (HF1.out k x hx)
      have HG2 := Lib.hid (HF2.out k x hx)
      have hlong : Hid (x.long m = isLong x.acq x.cls m) := rfl
      have KX := Lib.hid (Box.new0 wr #[.string ⟨x.cause.toArray⟩, .string ⟨x.lot.toArray⟩, .string ⟨x.ins.toArray⟩, .int .i64 x.acq, .int .i64 x.cls, .string ⟨x.q.toArray⟩, .string ⟨x.p.toArray⟩, .string ⟨x.c.toArray⟩, .string ⟨x.df.toArray⟩, .string ⟨x.rp.toArray⟩] 51)
      have hbx := below_alloc wr (.cells #[.string ⟨x.cause.toArray⟩, .string ⟨x.lot.toArray⟩, .string ⟨x.ins.toArray⟩, .int .i64 x.acq, .int .i64 x.cls, .string ⟨x.q.toArray⟩, .string ⟨x.p.toArray⟩, .string ⟨x.c.toArray⟩, .string ⟨x.df.toArray⟩, .string ⟨x.rp.toArray⟩] 51)
      have HB := Lib.hid (below_up hB.out hbx)
      have G := Lib.hid (And.intro (G.out.1.below hbx) (G.out.2.below hbx))
      simp only [GainP.v, GainP.cs] at HR
      clear hx hxm hxs hxe hdays hbx hst
      go_wp2_with fail
      generalize wr.alloc _ = w4 at *
      refine (HLg.out _).mono ?_
      rintro e w5 ⟨rfl, hb⟩
      have HB := Lib.hid (below_up HB.out hb)
      have G := Lib.hid (And.intro (G.out.1.below hb) (G.out.2.below hb))
      have KX := Lib.hid (KX.out.below hb)
      have q0 := KX.out.cell 0
      have q1 := KX.out.cell 1
      have q2 := KX.out.cell 2
      have q3 := KX.out.cell 3
      have q4 := KX.out.cell 4
      have q5 := KX.out.cell 5
      have q6 := KX.out.cell 6
      have q7 := KX.out.cell 7
      have q8 := KX.out.cell 8
      have q9 := KX.out.cell 9
      clear hb k0 k1 k2 k3 k4 k5 k6 k7 k8 k9 HLg
      go_wp2_with fail
      refine (HR.out _ (HE.out.below HB.out)).mono ?_
      rintro e w6 ⟨rfl, hb⟩
      have HB := Lib.hid (below_up HB.out hb)
      have G := Lib.hid (And.intro (G.out.1.below hb) (G.out.2.below hb))
      have KX := Lib.hid (KX.out.below hb)
      clear hb HR
      go_wp2_with fail
      refine (HAd.out _ (HE.out.below HB.out)).mono ?_
      rintro e w7 ⟨rfl, hb⟩
      have HB := Lib.hid (below_up HB.out hb)
      have G := Lib.hid (And.intro (G.out.1.below hb) (G.out.2.below hb))
      have KX := Lib.hid (KX.out.below hb)
      clear hb HAd q0 q1 q2 q3 q4 q5 q6 q7 q8 q9
      have q0 := KX.out.cell 0
      have q1 := KX.out.cell 1
      have q2 := KX.out.cell 2
      have q3 := KX.out.cell 3
      have q4 := KX.out.cell 4
      have q5 := KX.out.cell 5
      have q6 := KX.out.cell 6
      have q7 := KX.out.cell 7
      have q8 := KX.out.cell 8
      have q9 := KX.out.cell 9
      cases hlg : isLong x.acq x.cls m
      · rw [hlg] at hlong
        have hget : Hid (L2[n2]? = some x) := by show _ = _; rw [hq2.out]; exact HG2.out (by simp [hlong.out])
        have HN1 : Hid (n1 = ((gs.take (k + 1)).filter (GainP.long m)).length) := by show _ = _; rw [HT1.out, hlong.out, hq1.out]; simp
        have HN2 : Hid (n2 + 1 = ((gs.take (k + 1)).filter (fun x => !x.long m)).length) := by show _ = _; rw [HT2.out, hlong.out, hq2.out]; simp
        clear hq1 hq2 HG1 HG2 HT1 HT2 hlong hlg
        · skip
          obtain ⟨bl, ol, hal, j0, j1, j2, j3, j4, j5, j6, j7, j8, j9⟩ := (G.out.2).addr hget.out
          have hlt2 : (n2 : Int) < L2.length := by have := (List.getElem?_eq_some_iff.1 hget.out).1; omega
          subst hal
          clear hget
          go_wp2_with fail
          go_quiet (fail)
          go_wp2_with fail
          go_quiet (fail)
          go_wp2
          go_round
          case rel => exact ⟨below_drewN HB.out _, ⟨G.out.1.below (below_drewN (Below.refl _ _) _), G.out.2.below (below_drewN (Below.refl _ _) _)⟩, k + 1, by omega, by go_num, n1, n2 + 1, rfl, by go_num, by omega, by omega, HN1, HN2, _, rfl, HS2, by omega⟩
          case measure => simp [intOf]; omega
      · rw [hlg] at hlong
        have hget : Hid (L1[n1]? = some x) := by show _ = _; rw [hq1.out]; exact HG1.out (by simp [hlong.out])
        have HN1 : Hid (n1 + 1 = ((gs.take (k + 1)).filter (GainP.long m)).length) := by show _ = _; rw [HT1.out, hlong.out, hq1.out]; simp
        have HN2 : Hid (n2 = ((gs.take (k + 1)).filter (fun x => !x.long m)).length) := by show _ = _; rw [HT2.out, hlong.out, hq2.out]; simp
        clear hq1 hq2 HG1 HG2 HT1 HT2 hlong hlg
        · skip
          obtain ⟨bl, ol, hal, j0, j1, j2, j3, j4, j5, j6, j7, j8, j9⟩ := (G.out.1).addr hget.out
          have hlt2 : (n1 : Int) < L1.length := by have := (List.getElem?_eq_some_iff.1 hget.out).1; omega
          subst hal
          clear hget
          go_wp2_with fail
          go_quiet (fail)
          go_wp2_with fail
          go_wp2
          go_round
          case rel => exact ⟨below_drewN HB.out _, ⟨G.out.1.below (below_drewN (Below.refl _ _) _), G.out.2.below (below_drewN (Below.refl _ _) _)⟩, k + 1, by omega, by go_num, n1 + 1, n2, by go_num, rfl, by omega, by omega, HN1, HN2, _, rfl, HS2, by omega⟩
          case measure => simp [intOf]; omega
    · obtain rfl : k = gs.length := by omega
      have hst : Hid (st = canon (sumOf GainP.realT gs)) := by show _ = _; rw [hst.out, List.take_length]
      rw [← hst.out] at H4
      go_wp2_with fail
      refine (H4.out _ (HE.out.below hB.out)).mono ?_
      rintro e w4 ⟨rfl, hb⟩
      have HB := Lib.hid (below_up hB.out hb)
      clear hb
      go_wp2_with fail
      refine (HA.out _).mono ?_
      rintro e w5 ⟨rfl, hb⟩
      go_wp2
      go_ret
      exact ⟨rfl, below_up HB.out hb⟩
end Go.Proofs.YthlpfefckhdpiaaGreatDoor
