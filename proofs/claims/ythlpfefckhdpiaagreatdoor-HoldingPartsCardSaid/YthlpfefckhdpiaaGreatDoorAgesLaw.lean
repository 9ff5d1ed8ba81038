/- The law of the ages: it returns true. -/
import Derived.Test.YthlpfefckhdpiaaGreatDoorAgesPure
import Derived.Test.YthlpfefckhdpiaaGreatDoorLotFunc
import Derived.Test.YthlpfefckhdpiaaGreatDoorAwake23
namespace Go.Proofs.YthlpfefckhdpiaaGreatDoor
open Go.RowKit Num Dt
attribute [local go_sem] str_append str_extract str_size setCell_drewN

theorem late1_any (x : LotP) (d : Int) (B2 : Nat) (T2 : TypeId) (w : World) (hB2 : Box w B2 #[.int .i64 d] T2) :
    Calls Tryz.prog 13 #[x.v, .pointer (some ⟨B2, 0, none⟩)] w fun e w' => e = .returned (.bool (decide (d < x.acq))) ∧ Below w.heap.size w w' := by
  have k0 := hB2.cell 0
  have HB := hB2.1
  have hne : B2 ≠ w.heap.size := by omega
  clear hB2
  have KB := Lib.hid (below_alloc w (.cells #[.string ⟨x.id.toArray⟩, .string ⟨x.ins.toArray⟩, .int .i64 x.acq, .int .i64 x.opn, .string ⟨x.q.toArray⟩, .string ⟨x.c.toArray⟩, .string ⟨x.u.toArray⟩] 35))
  unfold LotP.v
  by_cases g : d < x.acq
  all_goals
    go_enter Tryz.func13, Tryz.ntmps13
    go_wp2
    go_ret
    exact ⟨ret_bool (by simp [g]), KB.out⟩
theorem ints_box {w : World} {b : Nat} {cs : Array Value} {T : TypeId} {zs : List Int} (h : Box w b cs T) (hc : ∀ (k : Nat) (z : Int), zs[k]? = some z → cs[k]? = some (Value.int .i64 z)) : Ints w (some ⟨b, 0, none⟩) zs :=
  .inr ⟨b, 0, rfl, h.1, fun k z hz => by rw [Nat.zero_add, h.cell k]; exact hc k z hz⟩
theorem row_old {w : World} {a : Option Addr} {xs : List Value} (h : Row w a xs) (hne : xs ≠ []) : ∀ b off, a = some ⟨b, off, none⟩ → b ≠ w.heap.size := by
  intro b off e
  obtain ⟨b', off', e', hlt, _⟩ := h.addr hne
  rw [e] at e'
  injection e' with e'
  injection e' with e1
  omega
theorem longRes_ok {a c m : Int} (h0 : 0 ≤ m) (h1 : m ≤ 120) (ha : vday a = true) (hc : vday c = true) (h : a ≤ c) : longRes a c m = (isLong a c m, 0) := by
  unfold vday at ha hc
  simp at ha hc
  unfold longRes
  rw [if_neg (by omega), if_neg (by omega), if_neg (by omega)]
theorem age_two {d m : Int} {ls : List LotP} {k : Nat} {x : LotP} {u0 u1 : List UInt8} {r : Option (List (List UInt8))} (hx : ls[k]? = some x) (h : x.acq ≤ d) (hg : ageAll d [m] [u0, u1] (ls.drop k) = r) :
    (if isLong x.acq d m = true then ageAll d [m] [u0, canon (val u1 + val x.c)] (ls.drop (k + 1)) else ageAll d [m] [canon (val u0 + val x.c), u1] (ls.drop (k + 1))) = r := by
  rw [age_some hx (by omega)] at hg
  rw [← hg]
  unfold olds
  cases hb : isLong x.acq d m <;> simp [addAt, hb]
set_option maxHeartbeats 4000000 in
set_option maxRecDepth 100000 in
theorem agesLaw_any (ls : List LotP) (d : Int) (m8 : Int) (a : Option Addr) (c : Nat) (w : World) (hE : Env w) (hm0 : 0 ≤ m8) (hm1 : m8 ≤ 255) (hn : ls.length ≤ 9223372036854775807) (hc : ls.length ≤ c) (hw : Lots w a ls) (hs : ∀ x, x ∈ ls → x.fits) :
    Calls Tryz.prog 3 #[.slice a ls.length c, .int .i64 d, .int .u8 m8] w fun e w' => e = .returned (.bool true) ∧ Below w.heap.size w w' := by
  have HS := Lib.hid hs
  have HW := Lib.hid hw
  have HE := Lib.hid hE
  have HC := Lib.hid hc
  clear hs hw hE hc
  have hm : Hid (0 ≤ m8 % 121 ∧ m8 % 121 ≤ 120) := by
    show _ ∧ _
    omega
  have KB := Lib.hid (Box.new0 w #[.int .i64 d] 23)
  have HB := Lib.hid (below_alloc w (.cells #[.int .i64 d] 23))
  have HA := Lib.hid awake_any
  have H1 := Lib.hid (fun W (hb : Below w.heap.size w W) => great_any ls a c W hn (HW.out.below hb) HS.out)
  go_enter Tryz.func3, Tryz.ntmps3
  go_wp2_with fail
  generalize m8 % 121 = m at *
  refine (H1.out _ HB.out).mono ?_
  rintro e w1 ⟨rfl, hb⟩
  have KB := Lib.hid (KB.out.below hb)
  have HB := Lib.hid (below_up HB.out hb)
  clear hb H1
  have k0 := KB.out.cell 0
  cases hg : greats ls
  case true =>
    go_wp2_with fail
    refine (HA.out _).mono ?_
    rintro e w2 ⟨rfl, hb⟩
    go_wp2
    go_ret
    exact ⟨rfl, below_up HB.out hb⟩
  by_cases g1 : (12 : Int) < ls.length
  case pos =>
    go_wp2_with fail
    refine (HA.out _).mono ?_
    rintro e w2 ⟨rfl, hb⟩
    go_wp2
    go_ret
    exact ⟨rfl, below_up HB.out hb⟩
  have hsm := Lib.hid (not_great hg)
  have H2 := Lib.hid (fun W (hb : Below w.heap.size w W) => rcheckAll_any ls a c W (by omega) HC.out (HW.out.below hb) hsm.out)
  clear hg
  go_wp2_with fail
  refine (H2.out _ HB.out).mono ?_
  rintro e w2 ⟨rfl, hb⟩
  have KB := Lib.hid (KB.out.below hb)
  have HB := Lib.hid (below_up HB.out hb)
  have k0 := KB.out.cell 0
  clear hb H2
  by_cases g2 : scanErr [] ls = 0
  case neg =>
    have g2' : (scanErr [] ls != 0) = true := by simpa using g2
    generalize scanErr [] ls = q at *
    go_wp2_with fail
    refine (HA.out _).mono ?_
    rintro e w2 ⟨rfl, hb⟩
    go_wp2
    go_ret
    exact ⟨rfl, below_up HB.out hb⟩
  by_cases g3 : d < -25567
  case pos =>
    rw [g2]
    go_wp2_with fail
    refine (HA.out _).mono ?_
    rintro e w2 ⟨rfl, hb⟩
    go_wp2
    go_ret
    exact ⟨rfl, below_up HB.out hb⟩
  by_cases g4 : 84005 < d
  case pos =>
    rw [g2]
    go_wp2_with fail
    refine (HA.out _).mono ?_
    rintro e w2 ⟨rfl, hb⟩
    go_wp2
    go_ret
    exact ⟨rfl, below_up HB.out hb⟩
  have hv : Hid (vday d = true) := by show _ = _; unfold vday; simp; omega
  have hn12 : ls.length ≤ 12 := by omega
  have G2 := Lib.hid g2
  have H3 := Lib.hid (fun W (hb : Below w.heap.size w W) => aging_any ls d [] a none c 0 W (HE.out.below hb) hn12 (by simp) (HW.out.below hb) (.inl rfl) hsm.out)
  have H4 := Lib.hid (fun W (hb : Below w.heap.size w W) (b2 : Nat) (T : TypeId) (hK : Box W b2 #[.int .i64 m] T) => aging_any ls d [m] a (some ⟨b2, 0, none⟩) c 1 W (HE.out.below hb) hn12 (by simp) (HW.out.below hb) (ints_box hK (by intro k z hz; match k, hz with | 0, hz => simp at hz; subst hz; rfl)) hsm.out)
  have H5 := Lib.hid (fun W (hb : Below w.heap.size w W) (b2 : Nat) (T : TypeId) (hK : Box W b2 #[.int .i64 0, .int .i64 1, .int .i64 5, .int .i64 12, .int .i64 60] T) => aging_any ls d [0, 1, 5, 12, 60] a (some ⟨b2, 0, none⟩) c 5 W (HE.out.below hb) hn12 (by simp) (HW.out.below hb) (ints_box hK (by intro k z hz; match k, hz with | 0, hz => simp at hz; subst hz; rfl | 1, hz => simp at hz; subst hz; rfl | 2, hz => simp at hz; subst hz; rfl | 3, hz => simp at hz; subst hz; rfl | 4, hz => simp at hz; subst hz; rfl)) hsm.out)
  have H6 := Lib.hid (fun W (hb : Below w.heap.size w W) (hK : Box W w.heap.size #[.int .i64 d] 23) => containsFunc_lot 13 (.pointer (some ⟨w.heap.size, 0, none⟩)) (fun x => decide (d < x.acq)) W.heap.size (fun W' => Box W' w.heap.size #[.int .i64 d] 23) (fun V V' h hb' => ⟨Nat.lt_of_lt_of_le h.1 hb'.size, (hb'.block _ hK.1).trans h.2⟩) (fun _ _ => by kernel_rfl) (fun x V h => late1_any x d w.heap.size _ V h) ls a c W (HW.out.below hb) hK (Nat.le_refl _) (by omega))
  rw [g2]
  clear g2
  cases hl : ls.any (fun x => decide (d < x.acq))
  · have hl' : ∀ x, x ∈ ls → x.acq ≤ d := by simpa using hl
    obtain ⟨s, s0, s1, all, e1, e2, e3, hlen, hage, hsum, htot, hl0, hl1, hla⟩ := ages_law (m := m) G2.out hv.out hm.out.1 hm.out.2 hl' (fun x hx => (hsm.out x hx).2.2.2.1) hn12
    rw [e1] at H3
    rw [e2] at H4
    rw [e3] at H5
    rw [hl] at H6
    have HL := Lib.hid hl'
    have HN := Lib.hid hlen
    have HG := Lib.hid hage
    have HU := Lib.hid (And.intro hsum htot)
    have HT := Lib.hid (And.intro hl0 (And.intro hl1 hla))
    clear hl hl' e1 e2 e3 hlen hage hsum htot hl0 hl1 hla
    go_wp2_with fail
    refine (H3.out _ HB.out).mono ?_
    rintro e w3 ⟨⟨a1, c1, rfl, r1⟩, hb⟩
    have KB := Lib.hid (KB.out.below hb)
    have HB := Lib.hid (below_up HB.out hb)
    have k0 := KB.out.cell 0
    have R1 := Lib.hid r1
    clear hb H3 r1
    go_wp2_with fail
    refine (H4.out _ (below_up HB.out (below_alloc w3 _)) _ _ (Box.new0 w3 _ _)).mono ?_
    rintro e w4 ⟨⟨a2, c2, rfl, r2⟩, hb⟩
    have hb := below_up (below_alloc w3 _) hb
    have KB := Lib.hid (KB.out.below hb)
    have HB := Lib.hid (below_up HB.out hb)
    have k0 := KB.out.cell 0
    have R1 := Lib.hid (R1.out.below hb)
    have R2 := Lib.hid r2
    clear hb H4 r2
    go_wp2_with fail
    refine (H5.out _ (below_up HB.out (below_alloc w4 _)) _ _ (Box.new0 w4 _ _)).mono ?_
    rintro e w5 ⟨⟨a3, c3, rfl, r3⟩, hb⟩
    have hb := below_up (below_alloc w4 _) hb
    have KB := Lib.hid (KB.out.below hb)
    have HB := Lib.hid (below_up HB.out hb)
    have k0 := KB.out.cell 0
    have R1 := Lib.hid (R1.out.below hb)
    have R2 := Lib.hid (R2.out.below hb)
    have R3 := Lib.hid r3
    clear hb H5 r3
    go_wp2_with fail
    refine (H6.out _ HB.out KB.out).mono ?_
    rintro e w6 ⟨rfl, hb⟩
    have KB := Lib.hid (KB.out.below hb)
    have HB := Lib.hid (below_up HB.out hb)
    have k0 := KB.out.cell 0
    have R1 := Lib.hid (R1.out.below hb)
    have R2 := Lib.hid (R2.out.below hb)
    have R3 := Lib.hid (R3.out.below hb)
    clear hb H6
    rw [HN.out]
    clear k0 hv
    obtain ⟨bw, hbw⟩ : ∃ bw, bw = w6.heap.size := ⟨_, rfl⟩
    have hbw0 : w.heap.size < bw := by have := KB.out.1; omega
    go_wp2_with fail
    have hb := below_alloc w6 (.cells #[.string ⟨#[]⟩, .string ⟨#[]⟩] 37)
    have KB := Lib.hid (KB.out.below hb)
    have HB := Lib.hid (below_up HB.out hb)
    have r1 := R1.out
    have r2 := R2.out
    have r3 := R3.out
    have KW : Hid (Box (w6.alloc (.cells #[.string ⟨#[]⟩, .string ⟨#[]⟩] 37)) bw #[.string ⟨([] : List UInt8).toArray⟩, .string ⟨([] : List UInt8).toArray⟩] 37) := by rw [hbw]; exact Box.new0 w6 _ _
    have HF : Hid ((∀ b off, a1 = some ⟨b, off, none⟩ → b ≠ bw) ∧ (∀ b off, a2 = some ⟨b, off, none⟩ → b ≠ bw) ∧ (∀ b off, a3 = some ⟨b, off, none⟩ → b ≠ bw)) := by
      rw [hbw]; exact ⟨row_old r1 (by simp [strs]), row_old r2 (by simp [strs]), row_old r3 (by have := HN.out; simp [strs]; intro e; rw [e] at this; simp at this)⟩
    have R := Lib.hid (And.intro (r1.below hb) (And.intro (r2.below hb) (r3.below hb)))
    have HG0 : Hid (ageAll d [m] [[], []] (ls.drop 0) = some [s0, s1]) := HG.out
    have hva : Hid (∀ x, x ∈ ls → vday x.acq = true) := fun x hx => (err_days (scan_errs ls [] G2.out x hx)).1
    have hvd : Hid (vday d = true) := by show _ = _; unfold vday; simp; omega
    rw [← hbw]
    clear r1 r2 r3 hb hbw HG
    go_loopw [113] (fun i W => Hid (Below w.heap.size w W) ∧ Hid (Box W w.heap.size #[.int .i64 d] 23) ∧ Hid (Row W a1 (strs [s]) ∧ Row W a2 (strs [s0, s1]) ∧ Row W a3 (strs all)) ∧ ∃ k : Nat, k ≤ ls.length ∧ i = .int .i64 (k : Int) ∧ ∃ u0 u1 : List UInt8, Hid (Box W bw #[.string ⟨u0.toArray⟩, .string ⟨u1.toArray⟩] 37) ∧ Hid (ageAll d [m] [u0, u1] (ls.drop k) = some [s0, s1]) ∧ u0.length ≤ 1000 + 2 * k ∧ u1.length ≤ 1000 + 2 * k) (fun i _ => ls.length - (intOf i).toNat)
    case atStart => exact ⟨HB, KB, R, 0, Nat.zero_le _, rfl, [], [], KW, HG0, by simp, by simp⟩
    case round =>
      clear HB KB R KW HG0
      obtain ⟨HB, KB, R, k, hk, rfl, u0, u1, KW, HG, hu0, hu1⟩ := hrel
      by_cases hlt : k < ls.length
      · obtain ⟨x, hx⟩ : ∃ x, ls[k]? = some x := ⟨ls[k], List.getElem?_eq_getElem hlt⟩
        obtain ⟨b, off, ha, k0, k1, k2, k3, k4, k5, k6⟩ := (HW.out.below HB.out).addr hx
        subst ha
        have q0 := KB.out.cell 0
        have q1 := KB.out.1
        have hne : w.heap.size ≠ wr.heap.size := by omega
        have hxm := List.mem_of_getElem? hx
        have hxc := (hsm.out x hxm).2.2.2.1
        have hxd := HL.out x hxm
        have HLg := Lib.hid (fun W => Long_any x.acq d m W)
        rw [longRes_ok hm.out.1 hm.out.2 (hva.out x hxm) hvd.out hxd] at HLg
        have HG2 := Lib.hid (age_two hx hxd HG.out)
        have hb := below_alloc wr (.cells #[.string ⟨x.id.toArray⟩, .string ⟨x.ins.toArray⟩, .int .i64 x.acq, .int .i64 x.opn, .string ⟨x.q.toArray⟩, .string ⟨x.c.toArray⟩, .string ⟨x.u.toArray⟩] 35)
        have KX := Lib.hid (Box.new0 wr #[.string ⟨x.id.toArray⟩, .string ⟨x.ins.toArray⟩, .int .i64 x.acq, .int .i64 x.opn, .string ⟨x.q.toArray⟩, .string ⟨x.c.toArray⟩, .string ⟨x.u.toArray⟩] 35)
        have KB2 := Lib.hid (KB.out.below hb)
        have HB2 := Lib.hid (below_up HB.out hb)
        have KW2 := Lib.hid (KW.out.below hb)
        have R2 := Lib.hid (And.intro (R.out.1.below hb) (And.intro (R.out.2.1.below hb) (R.out.2.2.below hb)))
        clear hb hx hxm
        go_wp2_with fail
        generalize wr.alloc _ = w7 at *
        clear k0 k1 k2 k3 k4 k5 k6 KB HB KW R q0 q1 hne HG
        refine (HLg.out _).mono ?_
        rintro e w8 ⟨rfl, hb⟩
        have KX := Lib.hid (KX.out.below hb)
        have KB := Lib.hid (KB2.out.below hb)
        have HB := Lib.hid (below_up HB2.out hb)
        have KW := Lib.hid (KW2.out.below hb)
        have R := Lib.hid (And.intro (R2.out.1.below hb) (And.intro (R2.out.2.1.below hb) (R2.out.2.2.below hb)))
        have q0 : w8.cell? ⟨bw, 0, none⟩ = some (.string ⟨u0.toArray⟩) := KW.out.cell 0
        have q1 : w8.cell? ⟨bw, 1, none⟩ = some (.string ⟨u1.toArray⟩) := KW.out.cell 1
        have q5 := KX.out.cell 5
        clear hb KX KB2 HB2 KW2 R2 HLg
        cases gl : isLong x.acq d m
        · rw [gl] at HG2
          go_wp2_with fail
          have HD := Lib.hid (fun W hE => Add_any u0 x.c W hE (by omega) (by omega))
          go_region_with (go_at_call 15; refine (HD.out _ (HE.out.below (below_drewN HB.out _))).mono ?_; rintro e w9 ⟨rfl, hb5⟩; have KW5 := KW.out.below (below_up (below_drewN (Below.refl _ _) 1) hb5); have q0 : w9.cell? ⟨bw, 0, none⟩ = some (.string ⟨u0.toArray⟩) := (hb5.cell (p := ⟨bw, 0, none⟩) KW.out.1).trans q0; have q1 : w9.cell? ⟨bw, 1, none⟩ = some (.string ⟨u1.toArray⟩) := (hb5.cell (p := ⟨bw, 1, none⟩) KW.out.1).trans q1; have f0 := frozen_at KW5.2 0; have f1 := frozen_at KW5.2 1)
          all_goals
            have hb6 := below_up (below_drewN (Below.refl _ _) 1) hb5
            have KW6 : Hid (Box (w9.setCell ⟨bw, 0, none⟩ (.string ⟨(canon (val u0 + val x.c)).toArray⟩)) bw #[.string ⟨((canon (val u0 + val x.c))).toArray⟩, .string ⟨(u1).toArray⟩] 37) := ⟨by simpa [World.setCell] using KW5.1, (heap_setCell_same w9 bw 0 _ _ _ KW5.2).trans (by simp)⟩
            have HB6 := Lib.hid ((below_up HB.out hb6).setCell (p := ⟨bw, 0, none⟩) (Nat.le_of_lt hbw0) (.string ⟨(canon (val u0 + val x.c)).toArray⟩))
            have KB6 : Hid (Box (w9.setCell ⟨bw, 0, none⟩ (.string ⟨(canon (val u0 + val x.c)).toArray⟩)) w.heap.size #[.int .i64 d] 23) := Box.set (KB.out.below hb6) (by show w.heap.size ≠ bw; omega) _
            have R16 : Hid (Row (w9.setCell ⟨bw, 0, none⟩ (.string ⟨(canon (val u0 + val x.c)).toArray⟩)) a1 (strs [s]) ∧ Row (w9.setCell ⟨bw, 0, none⟩ (.string ⟨(canon (val u0 + val x.c)).toArray⟩)) a2 (strs [s0, s1]) ∧ Row (w9.setCell ⟨bw, 0, none⟩ (.string ⟨(canon (val u0 + val x.c)).toArray⟩)) a3 (strs all)) := ⟨(R.out.1.below hb6).setCell HF.out.1 _, (R.out.2.1.below hb6).setCell HF.out.2.1 _, (R.out.2.2.below hb6).setCell HF.out.2.2 _⟩
            have HG6 : Hid (ageAll d [m] [(canon (val u0 + val x.c)), u1] (ls.drop (k + 1)) = some [s0, s1]) := HG2.out
            have hl6 := add_len (l := u0) (m := x.c) (K := 1000 + 2 * k) (by omega) (by omega)
            clear hb5 KW5 q0 q1 f0 f1 hb6 HD
            generalize w9.setCell _ _ = w7 at *
            go_wp2
            go_round
            case rel => exact ⟨HB6, KB6, R16, k + 1, by omega, by go_num, _, _, KW6, HG6, by omega, by omega⟩
            case measure => simp [intOf]; omega
        · rw [gl] at HG2
          go_wp2_with fail
          have HD := Lib.hid (fun W hE => Add_any u1 x.c W hE (by omega) (by omega))
          go_region_with (go_at_call 15; refine (HD.out _ (HE.out.below (below_drewN HB.out _))).mono ?_; rintro e w9 ⟨rfl, hb5⟩; have KW5 := KW.out.below (below_up (below_drewN (Below.refl _ _) 1) hb5); have q0 : w9.cell? ⟨bw, 0, none⟩ = some (.string ⟨u0.toArray⟩) := (hb5.cell (p := ⟨bw, 0, none⟩) KW.out.1).trans q0; have q1 : w9.cell? ⟨bw, 1, none⟩ = some (.string ⟨u1.toArray⟩) := (hb5.cell (p := ⟨bw, 1, none⟩) KW.out.1).trans q1; have f0 := frozen_at KW5.2 0; have f1 := frozen_at KW5.2 1)
          all_goals
            have hb6 := below_up (below_drewN (Below.refl _ _) 1) hb5
            have KW6 : Hid (Box (w9.setCell ⟨bw, 1, none⟩ (.string ⟨(canon (val u1 + val x.c)).toArray⟩)) bw #[.string ⟨(u0).toArray⟩, .string ⟨((canon (val u1 + val x.c))).toArray⟩] 37) := ⟨by simpa [World.setCell] using KW5.1, (heap_setCell_same w9 bw 1 _ _ _ KW5.2).trans (by simp)⟩
            have HB6 := Lib.hid ((below_up HB.out hb6).setCell (p := ⟨bw, 1, none⟩) (Nat.le_of_lt hbw0) (.string ⟨(canon (val u1 + val x.c)).toArray⟩))
            have KB6 : Hid (Box (w9.setCell ⟨bw, 1, none⟩ (.string ⟨(canon (val u1 + val x.c)).toArray⟩)) w.heap.size #[.int .i64 d] 23) := Box.set (KB.out.below hb6) (by show w.heap.size ≠ bw; omega) _
            have R16 : Hid (Row (w9.setCell ⟨bw, 1, none⟩ (.string ⟨(canon (val u1 + val x.c)).toArray⟩)) a1 (strs [s]) ∧ Row (w9.setCell ⟨bw, 1, none⟩ (.string ⟨(canon (val u1 + val x.c)).toArray⟩)) a2 (strs [s0, s1]) ∧ Row (w9.setCell ⟨bw, 1, none⟩ (.string ⟨(canon (val u1 + val x.c)).toArray⟩)) a3 (strs all)) := ⟨(R.out.1.below hb6).setCell HF.out.1 _, (R.out.2.1.below hb6).setCell HF.out.2.1 _, (R.out.2.2.below hb6).setCell HF.out.2.2 _⟩
            have HG6 : Hid (ageAll d [m] [u0, (canon (val u1 + val x.c))] (ls.drop (k + 1)) = some [s0, s1]) := HG2.out
            have hl6 := add_len (l := u1) (m := x.c) (K := 1000 + 2 * k) (by omega) (by omega)
            clear hb5 KW5 q0 q1 f0 f1 hb6 HD
            generalize w9.setCell _ _ = w7 at *
            go_wp2
            go_round
            case rel => exact ⟨HB6, KB6, R16, k + 1, by omega, by go_num, _, _, KW6, HG6, by omega, by omega⟩
            case measure => simp [intOf]; omega
      · obtain rfl : k = ls.length := by omega
        have hu : s0 = u0 ∧ s1 = u1 := by have := HG.out; simp [ageAll] at this; exact ⟨this.1.symm, this.2.symm⟩
        obtain ⟨e0, e1⟩ := hu
        subst e0 e1
        clear HG hu0 hu1
        go_wp2_with fail
        go_loopw [20, 139] (fun t i W => Hid (Below w.heap.size w W) ∧ Hid (Box W bw #[.string ⟨s0.toArray⟩, .string ⟨s1.toArray⟩] 37) ∧ Hid (Row W a1 (strs [s]) ∧ Row W a2 (strs [s0, s1]) ∧ Row W a3 (strs all)) ∧ ∃ k : Nat, k ≤ 6 ∧ i = .int .i64 (k : Int) ∧ ∃ st : List UInt8, t = .string ⟨st.toArray⟩ ∧ Hid (st = canon (total (all.take k))) ∧ st.length ≤ 1200 + 2 * k) (fun _ i _ => 6 - (intOf i).toNat)
        case atStart => exact ⟨HB, KW, R, 0, Nat.zero_le _, rfl, [], rfl, rfl, by simp⟩
        case round =>
          clear HB KW R KB
          obtain ⟨HB, KW, R, k, hk, rfl, st, rfl, hst, hsl⟩ := hrel
          by_cases hlt : k < 6
          · obtain ⟨u, hu⟩ : ∃ u, all[k]? = some u := ⟨all[k]'(by rw [HN.out]; exact hlt), List.getElem?_eq_getElem _⟩
            have hul := HT.out.2.2 u (List.mem_of_getElem? hu)
            obtain ⟨b3, o3, ha, _, hc3⟩ := R.out.2.2.addr (by intro e; have := congrArg List.length e; simp [strs, HN.out] at this)
            have k0 := hc3 k _ (by unfold strs; rw [List.getElem?_map, hu]; rfl)
            subst ha
            have HD := Lib.hid (fun W hE => Add_any st u W hE (by omega) (by omega))
            have hl6 := add_len (l := st) (m := u) (K := 1200 + 2 * k) (by omega) (by omega)
            have HS2 : Hid (canon (val st + val u) = canon (total (all.take (k + 1)))) := by
              show _ = _
              rw [hst.out, val_canon, List.take_add_one, hu]
              simp [total]
            clear hu hc3
            go_wp2_with fail
            refine (HD.out _ (HE.out.below HB.out)).mono ?_
            rintro e w7 ⟨rfl, hb⟩
            have KW := Lib.hid (KW.out.below hb)
            have HB := Lib.hid (below_up HB.out hb)
            have R := Lib.hid (And.intro (R.out.1.below hb) (And.intro (R.out.2.1.below hb) (R.out.2.2.below hb)))
            clear HD hb k0
            go_wp2
            go_round
            case rel => exact ⟨HB, KW, R, k + 1, by omega, by go_num, _, rfl, HS2, by omega⟩
            case measure => simp [intOf]; omega
          · obtain rfl : k = 6 := by omega
            have hst2 : st = s := by rw [hst.out, List.take_of_length_le (by rw [HN.out]; exact Nat.le_refl _)]; exact HU.out.2
            subst hst2
            obtain ⟨b1, o1, ha1, hb1, hc1⟩ := R.out.1.addr (by simp [strs])
            obtain ⟨b2, o2, ha2, hb2, hc2⟩ := R.out.2.1.addr (by simp [strs])
            have c0 : wr.cell? ⟨b2, o2, none⟩ = some (.string ⟨s0.toArray⟩) := hc2 0 _ rfl
            have c1 : wr.cell? ⟨b2, o2 + 1, none⟩ = some (.string ⟨s1.toArray⟩) := hc2 1 _ rfl
            have c2 : wr.cell? ⟨b1, o1, none⟩ = some (.string ⟨st.toArray⟩) := hc1 0 _ rfl
            have c3 : wr.cell? ⟨bw, 0, none⟩ = some (.string ⟨s0.toArray⟩) := KW.out.cell 0
            have c4 : wr.cell? ⟨bw, 1, none⟩ = some (.string ⟨s1.toArray⟩) := KW.out.cell 1
            have hbw := KW.out.1
            subst ha1 ha2
            have HD := Lib.hid (fun W hE => Add_any s0 s1 W hE (by have := HT.out.1; omega) (by have := HT.out.2.1; omega))
            rw [HU.out.1] at HD
            clear hst hsl hc1 hc2 R KW HU
            go_wp2_with fail
            go_region_held3 (fun W => W.cell? ⟨b2, o2, none⟩ = some (.string ⟨s0.toArray⟩) ∧ W.cell? ⟨b2, o2 + 1, none⟩ = some (.string ⟨s1.toArray⟩) ∧ W.cell? ⟨b1, o1, none⟩ = some (.string ⟨st.toArray⟩) ∧ W.cell? ⟨bw, 0, none⟩ = some (.string ⟨s0.toArray⟩) ∧ W.cell? ⟨bw, 1, none⟩ = some (.string ⟨s1.toArray⟩)) (first | exact ⟨c0, c1, c2, c3, c4⟩ | exact ⟨(hb7.cell (p := ⟨b2, o2, none⟩) hb2).trans c0, (hb7.cell (p := ⟨b2, o2 + 1, none⟩) hb2).trans c1, (hb7.cell (p := ⟨b1, o1, none⟩) hb1).trans c2, (hb7.cell (p := ⟨bw, 0, none⟩) hbw).trans c3, (hb7.cell (p := ⟨bw, 1, none⟩) hbw).trans c4⟩ | exact ⟨(hb8.cell (p := ⟨b2, o2, none⟩) (Nat.lt_of_lt_of_le hb2 hb7.size)).trans ((hb7.cell (p := ⟨b2, o2, none⟩) hb2).trans c0), (hb8.cell (p := ⟨b2, o2 + 1, none⟩) (Nat.lt_of_lt_of_le hb2 hb7.size)).trans ((hb7.cell (p := ⟨b2, o2 + 1, none⟩) hb2).trans c1), (hb8.cell (p := ⟨b1, o1, none⟩) (Nat.lt_of_lt_of_le hb1 hb7.size)).trans ((hb7.cell (p := ⟨b1, o1, none⟩) hb1).trans c2), (hb8.cell (p := ⟨bw, 0, none⟩) (Nat.lt_of_lt_of_le hbw hb7.size)).trans ((hb7.cell (p := ⟨bw, 0, none⟩) hbw).trans c3), (hb8.cell (p := ⟨bw, 1, none⟩) (Nat.lt_of_lt_of_le hbw hb7.size)).trans ((hb7.cell (p := ⟨bw, 1, none⟩) hbw).trans c4)⟩ | go_keep)
              (first | (go_at_call 15; refine (HD.out _ (HE.out.below (below_drewN HB.out _))).mono ?_; rintro e w7 ⟨rfl, hb7⟩; have HB7 := below_up (below_drewN HB.out _) hb7) | (go_at_call 10; refine (HA.out _).mono ?_; rintro e w8 ⟨rfl, hb8⟩))
            go_wp2
            go_ret
            exact ⟨rfl, below_up HB7 hb8⟩
  · have hl' : ∃ x, x ∈ ls ∧ d < x.acq := by simpa using hl
    rw [aging_late G2.out rfl hv.out rfl hl'] at H3
    rw [aging_late G2.out (by have := hm.out; simp [bad]; omega) hv.out rfl hl'] at H4
    rw [aging_late G2.out (by decide) hv.out (by decide) hl'] at H5
    rw [hl] at H6
    clear hl hl'
    go_wp2_with fail
    refine (H3.out _ HB.out).mono ?_
    rintro e w3 ⟨⟨a1, c1, rfl, r1⟩, hb⟩
    have KB := Lib.hid (KB.out.below hb)
    have HB := Lib.hid (below_up HB.out hb)
    have k0 := KB.out.cell 0
    have R1 := Lib.hid r1
    clear hb H3 r1
    go_wp2_with fail
    refine (H4.out _ (below_up HB.out (below_alloc w3 _)) _ _ (Box.new0 w3 _ _)).mono ?_
    rintro e w4 ⟨⟨a2, c2, rfl, r2⟩, hb⟩
    have hb := below_up (below_alloc w3 _) hb
    have KB := Lib.hid (KB.out.below hb)
    have HB := Lib.hid (below_up HB.out hb)
    have k0 := KB.out.cell 0
    have R1 := Lib.hid (R1.out.below hb)
    have R2 := Lib.hid r2
    clear hb H4 r2
    go_wp2_with fail
    refine (H5.out _ (below_up HB.out (below_alloc w4 _)) _ _ (Box.new0 w4 _ _)).mono ?_
    rintro e w5 ⟨⟨a3, c3, rfl, r3⟩, hb⟩
    have hb := below_up (below_alloc w4 _) hb
    have KB := Lib.hid (KB.out.below hb)
    have HB := Lib.hid (below_up HB.out hb)
    have k0 := KB.out.cell 0
    have R1 := Lib.hid (R1.out.below hb)
    have R2 := Lib.hid (R2.out.below hb)
    have R3 := Lib.hid r3
    clear hb H5 r3
    go_wp2_with fail
    refine (H6.out _ HB.out KB.out).mono ?_
    rintro e w6 ⟨rfl, hb⟩
    have KB := Lib.hid (KB.out.below hb)
    have HB := Lib.hid (below_up HB.out hb)
    have k0 := KB.out.cell 0
    have R1 := Lib.hid (R1.out.below hb)
    have R2 := Lib.hid (R2.out.below hb)
    have R3 := Lib.hid (R3.out.below hb)
    clear hb H6
    go_wp2_with fail
    refine (HA.out _).mono ?_
    rintro e w2 ⟨rfl, hb⟩
    go_wp2
    go_ret
    exact ⟨rfl, below_up HB.out hb⟩
end Go.Proofs.YthlpfefckhdpiaaGreatDoor
