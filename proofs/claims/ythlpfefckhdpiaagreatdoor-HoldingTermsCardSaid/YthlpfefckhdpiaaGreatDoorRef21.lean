/- trancheref13.LotId; trancheref21 over gains. -/
import Derived.Test.YthlpfefckhdpiaaGreatDoorSums
import Derived.Test.YthlpfefckhdpiaaGreatDoorRefAdd
set_option linter.unusedSimpArgs false
namespace Go.Proofs.YthlpfefckhdpiaaGreatDoor
open Go.RowKit Num Dt
attribute [local go_sem] str_append str_extract str_size setCell_drewN

set_option maxHeartbeats 2000000 in
set_option maxRecDepth 100000 in
theorem RLotId_any (l : List UInt8) (w : World) (hl : l.length ≤ 9000000000000000000) :
    Calls Tryz.prog 97 #[.string ⟨l.toArray⟩] w fun e w' => e = .returned (.bool (isId l)) ∧ w = w' := by
  have ha := Lib.hid (isId_at l)
  have hn := Lib.hid (isId_none l)
  generalize isId l = r at *
  go_enter Tryz.func97, Tryz.ntmps97
  go_wp2
  go_loop [3, 4] (fun t i => t = .int .i64 (-1) ∧ ∃ k : Nat, k ≤ l.length ∧ i = .int .i64 (k : Int) ∧ Hid (∀ j, j < k → l.getD j 0 ≠ 47)) (fun _ i => l.length - (intOf i).toNat)
  case atStart => exact ⟨rfl, 0, Nat.zero_le _, rfl, fun j hj => absurd hj (Nat.not_lt_zero j)⟩
  case round =>
    obtain ⟨rfl, k, hk, rfl, hp⟩ := hrel
    by_cases hlt : k < l.length
    · have hsz : k < (⟨l.toArray⟩ : ByteArray).size := by rw [str_size]; exact hlt
      have hgk := Lib.hid (str_get l k hsz)
      by_cases n1 : (((⟨l.toArray⟩ : ByteArray)[k]'hsz).toNat : Int) = 47
      · have e1 : Hid (l.getD k 0 = 47) := by
          show _ = _
          rw [← hgk.out]
          apply UInt8.toNat.inj
          have : ((⟨l.toArray⟩ : ByteArray)[k]'hsz).toNat = 47 := by omega
          rw [this]; rfl
        have HA := Lib.hid (ha.out k hlt e1.out hp.out)
        obtain ⟨m, hm⟩ : ∃ m, m = l.drop (k + 1) := ⟨_, rfl⟩
        have hsl : (l.drop (k + 1)).take (l.length - (k + 1)) = m := by rw [hm]; exact List.take_of_length_le (by simp)
        have hml : m.length ≤ 9000000000000000000 := by rw [hm]; simp; omega
        rw [← hm] at HA
        have H1 := Lib.hid (fun W => RName_any (l.take k) W (by simp; omega))
        have hd := Lib.hid (show isNum m = (decide (1 ≤ m.length) && decide (m.length ≤ 4) && m.all isDig && decide (m.head? ≠ some 48)) from rfl)
        clear hgk e1 ha hn hp hm
        generalize isName (l.take k) = r1 at *
        generalize isNum m = r2 at *
        cases r1
        · go_wp2_with (go_at_call 70; refine (H1.out _).mono ?_; rintro e w1 ⟨rfl, rfl⟩)
          go_ret
          exact ⟨ret_bool (by rw [HA.out]; simp), rfl⟩
        · go_wp2_with (go_at_call 70; refine (H1.out _).mono ?_; rintro e w1 ⟨rfl, rfl⟩)
          clear H1 hsl
          go_loop [6] (fun i => ∃ k : Nat, k ≤ m.length ∧ i = .int .i64 (k : Int) ∧ Hid (∀ j, j < k → isDig (m.getD j 0) = true)) (fun i => m.length - (intOf i).toNat)
          case atStart => exact ⟨0, Nat.zero_le _, rfl, fun j hj => absurd hj (Nat.not_lt_zero j)⟩
          case round =>
            obtain ⟨j, hj, rfl, hp⟩ := hrel
            by_cases hltj : j < m.length
            · have hszj : j < (⟨m.toArray⟩ : ByteArray).size := by rw [str_size]; exact hltj
              have hgk := Lib.hid (congrArg UInt8.toNat (str_get m j hszj))
              have hdef := Lib.hid (isDig_iff (m.getD j 0))
              rw [← hgk.out] at hdef
              by_cases n1 : (((⟨m.toArray⟩ : ByteArray)[j]'hszj).toNat : Int) < 48
              · have e1 : isDig (m.getD j 0) = false := by cases hb : isDig (m.getD j 0) with
                  | false => rfl
                  | true => have := hdef.out.1 hb; omega
                have hs2 := Lib.hid (all_false hltj e1)
                clear hdef hgk e1
                go_wp2
                go_ret
                exact ⟨ret_bool (by rw [HA.out, hd.out, hs2.out]; simp), rfl⟩
              · by_cases n2 : (57 : Int) < ((⟨m.toArray⟩ : ByteArray)[j]'hszj).toNat
                · have e1 : isDig (m.getD j 0) = false := by cases hb : isDig (m.getD j 0) with
                    | false => rfl
                    | true => have := hdef.out.1 hb; omega
                  have hs2 := Lib.hid (all_false hltj e1)
                  clear hdef hgk e1
                  go_wp2
                  go_ret
                  exact ⟨ret_bool (by rw [HA.out, hd.out, hs2.out]; simp), rfl⟩
                · have hs2 := Lib.hid (step_lt (p := fun j => isDig (m.getD j 0) = true) hp.out (hdef.out.2 (by omega)))
                  clear hdef hgk
                  go_wp2
                  go_round
                  case rel => exact ⟨j + 1, by omega, by go_num, hs2⟩
                  case measure => simp [intOf]; omega
            · obtain rfl : j = m.length := by omega
              have hs2 := Lib.hid (all_true hp.out)
              by_cases g1 : 1 ≤ m.length
              · have hsz0 : 0 < (⟨m.toArray⟩ : ByteArray).size := by rw [str_size]; omega
                have hg0 := Lib.hid (str_get m 0 hsz0)
                have hh := Lib.hid (show m.head? = some (m.getD 0 0) by cases m with
                  | nil => simp at g1
                  | cons a r => simp)
                have g1' : (1 : Int) ≤ m.length := by omega
                by_cases g2 : (m.length : Int) ≤ 4
                · by_cases g3 : ((⟨m.toArray⟩ : ByteArray)[0]'hsz0).toNat = 48
                  · have g3' : (((⟨m.toArray⟩ : ByteArray)[0]'hsz0).toNat : Int) = 48 := by omega
                    have hx : Hid (r = false) := by
                      show _ = _
                      have e : m.getD 0 0 = 48 := by rw [← hg0.out]; apply UInt8.toNat.inj; simpa using g3
                      rw [HA.out, hd.out, hh.out, e]; simp
                    clear hh hg0 hs2
                    go_wp2
                    go_ret
                    exact ⟨ret_bool (by rw [hx.out]), rfl⟩
                  · have g3' : ¬ (((⟨m.toArray⟩ : ByteArray)[0]'hsz0).toNat : Int) = 48 := by omega
                    have hx : Hid (r = true) := by
                      show _ = _
                      have e : m.getD 0 0 ≠ 48 := fun h => by rw [← hg0.out] at h; rw [h] at g3; exact g3 rfl
                      rw [HA.out, hd.out, hh.out, hs2.out]; simp at e; simp [e]; omega
                    clear hh hg0 hs2
                    go_wp2
                    go_ret
                    exact ⟨ret_bool (by rw [hx.out]; exact bne_iff_ne.2 g3'), rfl⟩
                · have hx : Hid (r = false) := by show _ = _; rw [HA.out, hd.out]; simp; omega
                  clear hh hg0 hs2
                  go_wp2
                  go_ret
                  exact ⟨ret_bool (by rw [hx.out]), rfl⟩
              · have g1' : ¬ (1 : Int) ≤ m.length := by omega
                have hx : Hid (r = false) := by show _ = _; rw [HA.out, hd.out]; simp; omega
                go_wp2
                go_ret
                exact ⟨ret_bool (by rw [hx.out]), rfl⟩
      · have e1 : l.getD k 0 ≠ 47 := fun h => by
          rw [← hgk.out] at h
          rw [h] at n1
          exact n1 rfl
        have hs2 := Lib.hid (step_lt (p := fun j => l.getD j 0 ≠ 47) hp.out e1)
        clear hgk e1
        go_wp2
        go_round
        case rel => exact ⟨rfl, k + 1, by omega, by go_num, hs2⟩
        case measure => simp [intOf]; omega
    · obtain rfl : k = l.length := by omega
      go_wp2
      go_ret
      exact ⟨ret_bool (by rw [hn.out hp.out]), rfl⟩
theorem r06check_any (d : Int) (w : World) : Calls Tryz.prog 98 #[.int .i64 d] w fun e w' => e = .returned (.int .i64 (if vday d = true then 0 else 13)) ∧ w = w' := by
  by_cases h : -25567 ≤ d ∧ d ≤ 84005
  · rw [if_pos (by unfold vday; simp [h])]; exact Ref06.check_yes d w h.1 h.2
  · rw [if_neg (by unfold vday; simp; omega)]; exact Ref06.check_no d w (by omega)
theorem val_13 {l : List UInt8} (h : l.length ≤ 13) : (val l).natAbs < 10000000000000 := Nat.lt_of_lt_of_le (val_abs l) (Nat.pow_le_pow_right (n := 10) (by decide) h)
set_option maxHeartbeats 1000000 in
theorem rloss_any (x : GainP) (w : World) (h1 : x.p.length ≤ 13) (h2 : x.c.length ≤ 13) :
    Calls Tryz.prog 100 #[x.v] w fun e w' => e = .returned (.string ⟨(canon x.loss).toArray⟩) ∧ Below w.heap.size w w' := by
  have hr : Hid (x.loss = if val x.c - val x.p < 0 then 0 else val x.c - val x.p) := rfl
  have hln := sub_len (l := x.c) (m := x.p) (K := 1000) (by omega) (by omega)
  have v1 := val_13 h1
  have v2 := val_13 h2
  have H1 := Lib.hid (fun W => RSub_any x.c x.p W (by omega) (by omega) (by omega) (by omega))
  have H2 := Lib.hid (fun W => RSign_any (canon (val x.c - val x.p)) W (by omega))
  rw [val_canon] at H2
  have hc := Lib.hid (cmpI_lt (val x.c - val x.p) 0)
  clear hln v1 v2
  generalize x.loss = r at *
  generalize val x.c - val x.p = z at *
  have HB := Lib.hid (below_alloc w (.cells #[.string ⟨x.cause.toArray⟩, .string ⟨x.lot.toArray⟩, .string ⟨x.ins.toArray⟩, .int .i64 x.acq, .int .i64 x.cls, .string ⟨x.q.toArray⟩, .string ⟨x.p.toArray⟩, .string ⟨x.c.toArray⟩, .string ⟨x.df.toArray⟩, .string ⟨x.rp.toArray⟩] 51))
  simp only [GainP.v, GainP.cs] at *
  go_enter Tryz.func100, Tryz.ntmps100
  go_wp2_with fail
  refine (H1.out _).mono ?_
  rintro e w1 ⟨rfl, rfl⟩
  go_wp2_with fail
  refine (H2.out _).mono ?_
  rintro e w2 ⟨rfl, rfl⟩
  by_cases g : z < 0
  · have hr2 : Hid (r = 0) := by show _ = _; rw [hr.out, if_pos g]
    have t1 := hc.out.2 g
    generalize cmpI z 0 = y at *
    go_wp2
    go_ret
    exact ⟨ret_val (by rw [hr2.out, canon_zero]; rfl), HB.out⟩
  · have hr2 : Hid (r = z) := by show _ = _; rw [hr.out, if_neg g]
    have t1 := mt hc.out.1 g
    have hcz : Hid (canon r = canon z) := by show _ = _; rw [hr2.out]
    generalize cmpI z 0 = y at *
    generalize canon z = cz at *
    go_wp2
    go_ret
    exact ⟨ret_val (by rw [hcz.out]; rfl), HB.out⟩
set_option maxHeartbeats 4000000 in
set_option maxRecDepth 100000 in
theorem rgainCheck_any (x : GainP) (w : World) (hs : x.small) :
    Calls Tryz.prog 54 #[x.v] w fun e w' => e = .returned (.int .i64 x.err) ∧ Below w.heap.size w w' := by
  obtain ⟨cause, lot, ins, acq, cls, q, p, c, df, rp⟩ := x
  have hr := Lib.hid (GainP.err_mk cause lot ins acq cls q p c df rp)
  obtain ⟨s1, s2, s3, s4, s5, s6, s7, s8⟩ := hs
  simp only at s1 s2 s3 s4 s5 s6 s7 s8
  have hlen : Hid ((canon (GainP.mk cause lot ins acq cls q p c df rp).loss).length ≤ 1002) := by
    show _ ≤ _
    unfold GainP.loss
    split
    · rw [canon_zero]; simp
    · exact sub_len (l := c) (m := p) (K := 1000) (by omega) (by omega)
  have H1 := Lib.hid (fun W => RName_any cause W (by omega))
  have H2 := Lib.hid (fun W => RLotId_any lot W (by omega))
  have H3 := Lib.hid (fun W => RName_any ins W (by omega))
  have H4 := Lib.hid (fun W => r06check_any acq W)
  have H4b := Lib.hid (fun W => r06check_any cls W)
  have H5 := Lib.hid (fun (s : List UInt8) W (h : s.length ≤ 1000) => RCheck_any s W (by omega))
  have H6 := Lib.hid (fun W => RSign_any q W (by omega))
  have H7 := Lib.hid (fun W => RSign_any c W (by omega))
  have H8 := Lib.hid (fun W => RSign_any rp W (by omega))
  have H9 := Lib.hid (fun W => RCompare_any rp q W (by omega) (by omega))
  have H10 := Lib.hid (fun W => RSign_any df W (by omega))
  have H11 := Lib.hid (fun W => rloss_any ⟨cause, lot, ins, acq, cls, q, p, c, df, rp⟩ W (by simp; omega) (by simp; omega))
  have H12 := Lib.hid (fun W => RCompare_any df (canon (GainP.mk cause lot ins acq cls q p c df rp).loss) W (by omega) (by have := hlen.out; omega))
  rw [val_canon] at H12
  have KB := Lib.hid (Box.new0 w #[.string ⟨cause.toArray⟩, .string ⟨lot.toArray⟩, .string ⟨ins.toArray⟩, .int .i64 acq, .int .i64 cls, .string ⟨q.toArray⟩, .string ⟨p.toArray⟩, .string ⟨c.toArray⟩, .string ⟨df.toArray⟩, .string ⟨rp.toArray⟩] 51)
  have HB := Lib.hid (below_alloc w (.cells #[.string ⟨cause.toArray⟩, .string ⟨lot.toArray⟩, .string ⟨ins.toArray⟩, .int .i64 acq, .int .i64 cls, .string ⟨q.toArray⟩, .string ⟨p.toArray⟩, .string ⟨c.toArray⟩, .string ⟨df.toArray⟩, .string ⟨rp.toArray⟩] 51))
  have hnums : Hid (∀ s, s ∈ [q, p, c, df, rp] → s.length ≤ 1000) := by
    intro s hs
    simp at hs
    rcases hs with rfl | rfl | rfl | rfl | rfl <;> omega
  simp only [GainP.v, GainP.cs] at *
  generalize GainP.err _ = r at *
  generalize (GainP.mk cause lot ins acq cls q p c df rp).loss = ls at *
  generalize isName cause = b1 at *
  generalize isId lot = b2 at *
  generalize isName ins = b3 at *
  generalize vday acq = b4 at *
  generalize vday cls = b5 at *
  go_enter Tryz.func54, Tryz.ntmps54
  go_wp2_with fail
  generalize w.alloc _ = w1 at *
  have k1 := KB.out.cell 1
  have k2 := KB.out.cell 2
  have k3 := KB.out.cell 3
  have k4 := KB.out.cell 4
  have k5 := KB.out.cell 5
  have k6 := KB.out.cell 6
  have k7 := KB.out.cell 7
  have k8 := KB.out.cell 8
  have k9 := KB.out.cell 9
  refine (H1.out _).mono ?_
  rintro e w2 ⟨rfl, rfl⟩
  cases b1
  · go_wp2
    go_ret
    exact ⟨ret_int (by rw [hr.out]; simp), HB.out⟩
  go_wp2_with fail
  refine (H2.out _).mono ?_
  rintro e w2 ⟨rfl, rfl⟩
  cases b2
  · go_wp2
    go_ret
    exact ⟨ret_int (by rw [hr.out]; simp), HB.out⟩
  go_wp2_with fail
  refine (H3.out _).mono ?_
  rintro e w3 ⟨rfl, rfl⟩
  cases b3
  · go_wp2
    go_ret
    exact ⟨ret_int (by rw [hr.out]; simp), HB.out⟩
  go_wp2_with fail
  refine (H4.out _).mono ?_
  rintro e w4 ⟨rfl, rfl⟩
  cases b4
  · simp only [Bool.false_eq_true, if_false]
    go_wp2
    go_ret
    exact ⟨ret_int (by rw [hr.out]; simp), HB.out⟩
  simp only [if_true]
  go_wp2_with fail
  refine (H4b.out _).mono ?_
  rintro e w4 ⟨rfl, rfl⟩
  cases b5
  · simp only [Bool.false_eq_true, if_false]
    go_wp2
    go_ret
    exact ⟨ret_int (by rw [hr.out]; simp), HB.out⟩
  simp only [if_true]
  by_cases g1 : cls < acq
  · go_wp2
    go_ret
    exact ⟨ret_int (by rw [hr.out]; simp [g1]), HB.out⟩
  have hr : Hid (r = if !([q, p, c, df, rp].all isInt) then 1
    else if val q < 0 ∨ val c < 0 ∨ val rp < 0 ∨ val q < val rp then 2
    else if val df < 0 ∨ ls < val df ∨ (rp = [] ∧ df ≠ []) then 2
    else 0) := by show _ = _; rw [hr.out]; simp [g1]
  go_wp2_with fail
  have KN := Lib.hid (Box.new0 w1 #[.string ⟨q.toArray⟩, .string ⟨p.toArray⟩, .string ⟨c.toArray⟩, .string ⟨df.toArray⟩, .string ⟨rp.toArray⟩] 33)
  have KB := Lib.hid (KB.out.below (below_alloc w1 (.cells #[.string ⟨q.toArray⟩, .string ⟨p.toArray⟩, .string ⟨c.toArray⟩, .string ⟨df.toArray⟩, .string ⟨rp.toArray⟩] 33)))
  have HB := Lib.hid (below_up HB.out (below_alloc w1 (.cells #[.string ⟨q.toArray⟩, .string ⟨p.toArray⟩, .string ⟨c.toArray⟩, .string ⟨df.toArray⟩, .string ⟨rp.toArray⟩] 33)))
  obtain ⟨bn, hbn⟩ : ∃ bn, bn = w1.heap.size := ⟨_, rfl⟩
  rw [← hbn] at KN ⊢
  clear k1 k2 k3 k4 k5 k6 k7 k8 k9 hbn H1 H2 H3 H4 H4b
  generalize w1.alloc _ = wn at *
  go_loop [4] (fun i => ∃ k : Nat, k ≤ 5 ∧ i = .int .i64 (k : Int) ∧ Hid (([q, p, c, df, rp].take k).all isInt = true)) (fun i => 5 - (intOf i).toNat)
  case atStart => exact ⟨0, Nat.zero_le _, rfl, rfl⟩
  case round =>
    obtain ⟨k, hk, rfl, hp⟩ := hrel
    by_cases hlt : k < 5
    · obtain ⟨s, hs⟩ : ∃ s, [q, p, c, df, rp][k]? = some s := ⟨[q, p, c, df, rp][k]'(by simpa using hlt), List.getElem?_eq_getElem _⟩
      have hsl := hnums.out s (List.mem_of_getElem? hs)
      have k0 : wn.cell? ⟨bn, k, none⟩ = some (.string ⟨s.toArray⟩) := by
        rw [KN.out.cell k]
        match k, hlt, hs with
        | 0, _, hs => simp at hs; subst hs; rfl
        | 1, _, hs => simp at hs; subst hs; rfl
        | 2, _, hs => simp at hs; subst hs; rfl
        | 3, _, hs => simp at hs; subst hs; rfl
        | 4, _, hs => simp at hs; subst hs; rfl
      have HX := Lib.hid (fun h => all_take_true (p := isInt) hs hp.out h)
      have HY := Lib.hid (fun h => all_miss (p := isInt) hs h)
      have H5 := Lib.hid (fun W => H5.out s W hsl)
      clear hs
      go_wp2_with fail
      refine (H5.out _).mono ?_
      rintro e w4 ⟨rfl, rfl⟩
      clear k0
      cases hi : isInt s
      · have hr : Hid (r = 1) := by show _ = _; rw [hr.out, HY.out hi]; rfl
        simp only [Bool.false_eq_true, if_false]
        go_wp2
        go_ret
        exact ⟨ret_int hr.out.symm, HB.out⟩
      · simp only [if_true]
        go_wp2
        go_round
        case rel => exact ⟨k + 1, by omega, by go_num, HX.out hi⟩
        case measure => simp [intOf]; omega
    · obtain rfl : k = 5 := by omega
      have hr : Hid (r = if val q < 0 ∨ val c < 0 ∨ val rp < 0 ∨ val q < val rp then 2
        else if val df < 0 ∨ ls < val df ∨ (rp = [] ∧ df ≠ []) then 2
        else 0) := by show _ = _; rw [hr.out, show [q, p, c, df, rp].all isInt = true from hp.out]; rfl
      clear hp H5 KN
      have k5 := KB.out.cell 5
      have k7 := KB.out.cell 7
      have k9 := KB.out.cell 9
      go_wp2_with fail
      refine (H6.out _).mono ?_
      rintro e w5 ⟨rfl, rfl⟩
      have hc6 := Lib.hid (cmpI_lt (val q) 0)
      by_cases n1 : val q < 0
      · have t1 := hc6.out.2 n1
        generalize cmpI (val q) 0 = y at *
        go_wp2
        go_ret
        exact ⟨ret_int (by rw [hr.out, if_pos (by simp [n1])]), HB.out⟩
      have tn1 := mt hc6.out.1 n1
      generalize cmpI (val q) 0 = yn1 at *
      go_wp2_with fail
      refine (H7.out _).mono ?_
      rintro e w5 ⟨rfl, rfl⟩
      have hc7 := Lib.hid (cmpI_lt (val c) 0)
      by_cases n2 : val c < 0
      · have t1 := hc7.out.2 n2
        generalize cmpI (val c) 0 = y at *
        go_wp2
        go_ret
        exact ⟨ret_int (by rw [hr.out, if_pos (by simp [n2])]), HB.out⟩
      have tn2 := mt hc7.out.1 n2
      generalize cmpI (val c) 0 = yn2 at *
      go_wp2_with fail
      refine (H8.out _).mono ?_
      rintro e w5 ⟨rfl, rfl⟩
      have hc8 := Lib.hid (cmpI_lt (val rp) 0)
      by_cases n3 : val rp < 0
      · have t1 := hc8.out.2 n3
        generalize cmpI (val rp) 0 = y at *
        go_wp2
        go_ret
        exact ⟨ret_int (by rw [hr.out, if_pos (by simp [n3])]), HB.out⟩
      have tn3 := mt hc8.out.1 n3
      generalize cmpI (val rp) 0 = yn3 at *
      go_wp2_with fail
      refine (H9.out _).mono ?_
      rintro e w5 ⟨rfl, rfl⟩
      have hc9 := Lib.hid (cmpI_gt (val rp) (val q))
      clear k5 k7 k9
      by_cases n4 : val q < val rp
      · have t4 := hc9.out.2 n4
        generalize cmpI (val rp) (val q) = z at *
        go_wp2
        go_ret
        exact ⟨ret_int (by rw [hr.out, if_pos (by simp [n4])]), HB.out⟩
      have t4 := mt hc9.out.1 n4
      generalize cmpI (val rp) (val q) = z at *
      have hr : Hid (r = if val df < 0 ∨ ls < val df ∨ (rp = [] ∧ df ≠ []) then 2 else 0) := by show _ = _; rw [hr.out, if_neg (by simp [n1, n2, n3, n4])]
      clear n1 n2 n3 n4 hc9
      have hc12 := Lib.hid (cmpI_gt (val df) ls)
      have hc10 := Lib.hid (cmpI_lt (val df) 0)
      by_cases m1 : val df < 0
      · have t10 : decide (cmpI (val df) 0 < 0) = true := decide_eq_true (hc10.out.2 m1)
        have t10' := hc10.out.2 m1
        have hr : Hid (r = 2) := by show _ = _; rw [hr.out, if_pos (.inl m1)]
        clear m1 hc10
        generalize cmpI (val df) 0 = zd at *
        go_wp2_with fail
        refine wp_region_held_drew (S := (fun W => W.cell? ⟨w.heap.size, 0, none⟩ = some (.string ⟨cause.toArray⟩) ∧ W.cell? ⟨w.heap.size, 1, none⟩ = some (.string ⟨lot.toArray⟩) ∧ W.cell? ⟨w.heap.size, 2, none⟩ = some (.string ⟨ins.toArray⟩) ∧ W.cell? ⟨w.heap.size, 3, none⟩ = some (.int .i64 acq) ∧ W.cell? ⟨w.heap.size, 4, none⟩ = some (.int .i64 cls) ∧ W.cell? ⟨w.heap.size, 5, none⟩ = some (.string ⟨q.toArray⟩) ∧ W.cell? ⟨w.heap.size, 6, none⟩ = some (.string ⟨p.toArray⟩) ∧ W.cell? ⟨w.heap.size, 7, none⟩ = some (.string ⟨c.toArray⟩) ∧ W.cell? ⟨w.heap.size, 8, none⟩ = some (.string ⟨df.toArray⟩) ∧ W.cell? ⟨w.heap.size, 9, none⟩ = some (.string ⟨rp.toArray⟩))) (by kernel_rfl) ?hS1 (fun hHeld => ?hR1)
        case hS1 => exact ⟨KB.out.cell 0, KB.out.cell 1, KB.out.cell 2, KB.out.cell 3, KB.out.cell 4, KB.out.cell 5, KB.out.cell 6, KB.out.cell 7, KB.out.cell 8, KB.out.cell 9⟩
        refine take_op (i := 0) (some 83) (v := ?v2) rfl rfl (by kernel_rfl) (by kernel_rfl) (by kernel_rfl) (fun _ _ _ h => h) (Or.inl ⟨by rfl, ?hy2⟩) (by assumption) ?hR2
        case hy2 => (intro w hSw; (try dsimp only at hSw); go_simp; try rfl)
        simp only [Act.put, List.setIfInBounds_toArray, List.set_cons_zero, List.set_cons_succ]
        refine take_op (i := 1) (some 84) (v := ?v3) rfl rfl (by kernel_rfl) (by kernel_rfl) (by kernel_rfl) (fun _ _ _ h => h) (Or.inl ⟨by rfl, ?hy3⟩) (by assumption) ?hR3
        case hy3 => (intro w hSw; (try dsimp only at hSw); go_simp; try rfl)
        simp only [Act.put, List.setIfInBounds_toArray, List.set_cons_zero, List.set_cons_succ]
        refine wpAnyH_ready (rs := [2]) (by kernel_rfl) (by simp) ?_
        refine AllReadyH.cons (o := _) rfl (fun K hK => ?hC4) AllReadyH.nil
        rw [if_pos (by rfl)]
        go_simp
        go_at_call 73
        refine (H10.out _).mono ?_
        rintro e w6 ⟨rfl, hb6⟩
        subst hb6
        go_wp2_with fail
        refine hK.out _ _ ?hS4 (fun hHeld => ?hR4)
        case hS4 => exact ⟨KB.out.cell 0, KB.out.cell 1, KB.out.cell 2, KB.out.cell 3, KB.out.cell 4, KB.out.cell 5, KB.out.cell 6, KB.out.cell 7, KB.out.cell 8, KB.out.cell 9⟩
        try simp only [Act.put, List.setIfInBounds_toArray, List.set_cons_zero, List.set_cons_succ]
        refine take_op (i := 3) (some 86) (v := ?v5) rfl rfl (by kernel_rfl) (by kernel_rfl) (by kernel_rfl) (fun _ _ _ h => h) (Or.inl ⟨by rfl, ?hy5⟩) (by assumption) ?hR5
        case hy5 => (intro w hSw; (try dsimp only at hSw); go_simp; try rfl)
        simp only [Act.put, List.setIfInBounds_toArray, List.set_cons_zero, List.set_cons_succ]
        refine take_op (i := 4) (some 87) (v := ?v6) rfl rfl (by kernel_rfl) (by kernel_rfl) (by kernel_rfl) (fun _ _ _ h => h) (Or.inl ⟨by rfl, ?hy6⟩) (by assumption) ?hR6
        case hy6 => (intro w hSw; (try dsimp only at hSw); go_simp; try rfl)
        simp only [Act.put, List.setIfInBounds_toArray, List.set_cons_zero, List.set_cons_succ]
        refine take_op (i := 5) (some 88) (v := undef) rfl rfl (by kernel_rfl) (by kernel_rfl) (by kernel_rfl) (fun _ _ _ h => h) (Or.inr ⟨by rfl, rfl⟩) (by assumption) ?_
        simp only [Act.put, List.setIfInBounds_toArray, List.set_cons_zero, List.set_cons_succ]
        refine take_op (i := 6) (some 89) (v := undef) rfl rfl (by kernel_rfl) (by kernel_rfl) (by kernel_rfl) (fun _ _ _ h => h) (Or.inr ⟨by rfl, rfl⟩) (by assumption) ?_
        simp only [Act.put, List.setIfInBounds_toArray, List.set_cons_zero, List.set_cons_succ]
        refine take_op (i := 7) (some 90) (v := undef) rfl rfl (by kernel_rfl) (by kernel_rfl) (by kernel_rfl) (fun _ _ _ h => h) (Or.inr ⟨by rfl, rfl⟩) (by assumption) ?_
        simp only [Act.put, List.setIfInBounds_toArray, List.set_cons_zero, List.set_cons_succ]
        refine take_op (i := 8) (some 91) (v := undef) rfl rfl (by kernel_rfl) (by kernel_rfl) (by kernel_rfl) (fun _ _ _ h => h) (Or.inr ⟨by rfl, rfl⟩) (by assumption) ?_
        simp only [Act.put, List.setIfInBounds_toArray, List.set_cons_zero, List.set_cons_succ]
        refine take_op (i := 9) (some 92) (v := undef) rfl rfl (by kernel_rfl) (by kernel_rfl) (by kernel_rfl) (fun _ _ _ h => h) (Or.inr ⟨by rfl, rfl⟩) (by assumption) ?_
        simp only [Act.put, List.setIfInBounds_toArray, List.set_cons_zero, List.set_cons_succ]
        refine take_op (i := 10) (some 93) (v := undef) rfl rfl (by kernel_rfl) (by kernel_rfl) (by kernel_rfl) (fun _ _ _ h => h) (Or.inr ⟨by rfl, rfl⟩) (by assumption) ?_
        simp only [Act.put, List.setIfInBounds_toArray, List.set_cons_zero, List.set_cons_succ]
        refine take_op (i := 11) (some 94) (v := ?v7) rfl rfl (by kernel_rfl) (by kernel_rfl) (by kernel_rfl) (fun _ _ _ h => h) (Or.inl ⟨by rfl, ?hy7⟩) (by assumption) ?hR7
        case hy7 => (intro w hSw; (try dsimp only at hSw); go_simp; try rfl)
        simp only [Act.put, List.setIfInBounds_toArray, List.set_cons_zero, List.set_cons_succ]
        refine take_op (i := 12) (some 95) (v := ?v8) rfl rfl (by kernel_rfl) (by kernel_rfl) (by kernel_rfl) (fun _ _ _ h => h) (Or.inl ⟨by rfl, ?hy8⟩) (by assumption) ?hR8
        case hy8 => (intro w hSw; (try dsimp only at hSw); go_simp; try rfl)
        simp only [Act.put, List.setIfInBounds_toArray, List.set_cons_zero, List.set_cons_succ]
        refine take_op (i := 13) (some 96) (v := undef) rfl rfl (by kernel_rfl) (by kernel_rfl) (by kernel_rfl) (fun _ _ _ h => h) (Or.inr ⟨by rfl, rfl⟩) (by assumption) ?_
        simp only [Act.put, List.setIfInBounds_toArray, List.set_cons_zero, List.set_cons_succ]
        refine take_op (i := 14) (some 97) (v := undef) rfl rfl (by kernel_rfl) (by kernel_rfl) (by kernel_rfl) (fun _ _ _ h => h) (Or.inr ⟨by rfl, rfl⟩) (by assumption) ?_
        simp only [Act.put, List.setIfInBounds_toArray, List.set_cons_zero, List.set_cons_succ]
        refine take_op (i := 15) (some 98) (v := undef) rfl rfl (by kernel_rfl) (by kernel_rfl) (by kernel_rfl) (fun _ _ _ h => h) (Or.inr ⟨by rfl, rfl⟩) (by assumption) ?_
        simp only [Act.put, List.setIfInBounds_toArray, List.set_cons_zero, List.set_cons_succ]
        refine take_op (i := 16) (some 99) (v := undef) rfl rfl (by kernel_rfl) (by kernel_rfl) (by kernel_rfl) (fun _ _ _ h => h) (Or.inr ⟨by rfl, rfl⟩) (by assumption) ?_
        simp only [Act.put, List.setIfInBounds_toArray, List.set_cons_zero, List.set_cons_succ]
        refine take_op (i := 17) (some 100) (v := undef) rfl rfl (by kernel_rfl) (by kernel_rfl) (by kernel_rfl) (fun _ _ _ h => h) (Or.inr ⟨by rfl, rfl⟩) (by assumption) ?_
        simp only [Act.put, List.setIfInBounds_toArray, List.set_cons_zero, List.set_cons_succ]
        refine take_op (i := 18) (some 101) (v := undef) rfl rfl (by kernel_rfl) (by kernel_rfl) (by kernel_rfl) (fun _ _ _ h => h) (Or.inr ⟨by rfl, rfl⟩) (by assumption) ?_
        simp only [Act.put, List.setIfInBounds_toArray, List.set_cons_zero, List.set_cons_succ]
        refine take_op (i := 19) (some 102) (v := undef) rfl rfl (by kernel_rfl) (by kernel_rfl) (by kernel_rfl) (fun _ _ _ h => h) (Or.inr ⟨by rfl, rfl⟩) (by assumption) ?_
        simp only [Act.put, List.setIfInBounds_toArray, List.set_cons_zero, List.set_cons_succ]
        refine take_op (i := 20) (some 103) (v := undef) rfl rfl (by kernel_rfl) (by kernel_rfl) (by kernel_rfl) (fun _ _ _ h => h) (Or.inr ⟨by rfl, rfl⟩) (by assumption) ?_
        simp only [Act.put, List.setIfInBounds_toArray, List.set_cons_zero, List.set_cons_succ]
        refine take_op (i := 21) (some 104) (v := ?v9) rfl rfl (by kernel_rfl) (by kernel_rfl) (by kernel_rfl) (fun _ _ _ h => h) (Or.inl ⟨by rfl, ?hy9⟩) (by assumption) ?hR9
        case hy9 => (intro w hSw; (try dsimp only at hSw); go_simp; try rfl)
        simp only [Act.put, List.setIfInBounds_toArray, List.set_cons_zero, List.set_cons_succ]
        refine wpAnyH_done (by kernel_rfl) ?_ _
        go_wp2
        go_ret
        exact ⟨ret_int hr.out.symm, (below_drewN HB.out 1)⟩
      have t10 : decide (cmpI (val df) 0 < 0) = false := decide_eq_false (mt hc10.out.1 m1)
      have t10' := mt hc10.out.1 m1
      have hr : Hid (r = if ls < val df ∨ (rp = [] ∧ df ≠ []) then 2 else 0) := by show _ = _; rw [hr.out]; simp [m1]
      clear m1 hc10
      generalize cmpI (val df) 0 = zd at *
      by_cases m2 : ls < val df
      · have t2 : decide (0 < cmpI (val df) ls) = true := decide_eq_true (hc12.out.2 m2)
        have t2' : 0 < cmpI (val df) ls := hc12.out.2 m2
        have hr : Hid (r = 2) := by show _ = _; rw [hr.out, if_pos (.inl m2)]
        clear m2 hc12
        generalize cmpI (val df) ls = zz at *
        generalize canon ls = cl at *
        go_wp2_with fail
        refine wp_region_held_drew (S := (fun W => W.cell? ⟨w.heap.size, 0, none⟩ = some (.string ⟨cause.toArray⟩) ∧ W.cell? ⟨w.heap.size, 1, none⟩ = some (.string ⟨lot.toArray⟩) ∧ W.cell? ⟨w.heap.size, 2, none⟩ = some (.string ⟨ins.toArray⟩) ∧ W.cell? ⟨w.heap.size, 3, none⟩ = some (.int .i64 acq) ∧ W.cell? ⟨w.heap.size, 4, none⟩ = some (.int .i64 cls) ∧ W.cell? ⟨w.heap.size, 5, none⟩ = some (.string ⟨q.toArray⟩) ∧ W.cell? ⟨w.heap.size, 6, none⟩ = some (.string ⟨p.toArray⟩) ∧ W.cell? ⟨w.heap.size, 7, none⟩ = some (.string ⟨c.toArray⟩) ∧ W.cell? ⟨w.heap.size, 8, none⟩ = some (.string ⟨df.toArray⟩) ∧ W.cell? ⟨w.heap.size, 9, none⟩ = some (.string ⟨rp.toArray⟩))) (by kernel_rfl) ?hS10 (fun hHeld => ?hR10)
        case hS10 => exact ⟨KB.out.cell 0, KB.out.cell 1, KB.out.cell 2, KB.out.cell 3, KB.out.cell 4, KB.out.cell 5, KB.out.cell 6, KB.out.cell 7, KB.out.cell 8, KB.out.cell 9⟩
        refine take_op (i := 0) (some 83) (v := ?v11) rfl rfl (by kernel_rfl) (by kernel_rfl) (by kernel_rfl) (fun _ _ _ h => h) (Or.inl ⟨by rfl, ?hy11⟩) (by assumption) ?hR11
        case hy11 => (intro w hSw; (try dsimp only at hSw); go_simp; try rfl)
        simp only [Act.put, List.setIfInBounds_toArray, List.set_cons_zero, List.set_cons_succ]
        refine take_op (i := 1) (some 84) (v := ?v12) rfl rfl (by kernel_rfl) (by kernel_rfl) (by kernel_rfl) (fun _ _ _ h => h) (Or.inl ⟨by rfl, ?hy12⟩) (by assumption) ?hR12
        case hy12 => (intro w hSw; (try dsimp only at hSw); go_simp; try rfl)
        simp only [Act.put, List.setIfInBounds_toArray, List.set_cons_zero, List.set_cons_succ]
        refine wpAnyH_ready (rs := [2]) (by kernel_rfl) (by simp) ?_
        refine AllReadyH.cons (o := _) rfl (fun K hK => ?hC13) AllReadyH.nil
        rw [if_pos (by rfl)]
        go_simp
        go_at_call 73
        refine (H10.out _).mono ?_
        rintro e w6 ⟨rfl, hb6⟩
        subst hb6
        go_wp2_with fail
        refine hK.out _ _ ?hS13 (fun hHeld => ?hR13)
        case hS13 => exact ⟨KB.out.cell 0, KB.out.cell 1, KB.out.cell 2, KB.out.cell 3, KB.out.cell 4, KB.out.cell 5, KB.out.cell 6, KB.out.cell 7, KB.out.cell 8, KB.out.cell 9⟩
        try simp only [Act.put, List.setIfInBounds_toArray, List.set_cons_zero, List.set_cons_succ]
        refine take_op (i := 3) (some 86) (v := ?v14) rfl rfl (by kernel_rfl) (by kernel_rfl) (by kernel_rfl) (fun _ _ _ h => h) (Or.inl ⟨by rfl, ?hy14⟩) (by assumption) ?hR14
        case hy14 => (intro w hSw; (try dsimp only at hSw); go_simp; try rfl)
        simp only [Act.put, List.setIfInBounds_toArray, List.set_cons_zero, List.set_cons_succ]
        refine take_op (i := 4) (some 87) (v := ?v15) rfl rfl (by kernel_rfl) (by kernel_rfl) (by kernel_rfl) (fun _ _ _ h => h) (Or.inl ⟨by rfl, ?hy15⟩) (by assumption) ?hR15
        case hy15 => (intro w hSw; (try dsimp only at hSw); go_simp; try rfl)
        simp only [Act.put, List.setIfInBounds_toArray, List.set_cons_zero, List.set_cons_succ]
        refine take_op (i := 5) (some 88) (v := ?v16) rfl rfl (by kernel_rfl) (by kernel_rfl) (by kernel_rfl) (fun _ _ _ h => h) (Or.inl ⟨by rfl, ?hy16⟩) (by assumption) ?hR16
        case hy16 => (intro w hSw; (try dsimp only at hSw); go_simp; try rfl)
        simp only [Act.put, List.setIfInBounds_toArray, List.set_cons_zero, List.set_cons_succ]
        refine take_op (i := 6) (some 89) (v := ?v17) rfl rfl (by kernel_rfl) (by kernel_rfl) (by kernel_rfl) (fun _ _ _ h => h) (Or.inl ⟨by rfl, ?hy17⟩) (by assumption) ?hR17
        case hy17 => (intro w hSw; (try dsimp only at hSw); go_simp; try rfl)
        simp only [Act.put, List.setIfInBounds_toArray, List.set_cons_zero, List.set_cons_succ]
        refine take_op (i := 7) (some 90) (v := ?v18) rfl rfl (by kernel_rfl) (by kernel_rfl) (by kernel_rfl) (fun _ _ _ h => h) (Or.inl ⟨by rfl, ?hy18⟩) (by assumption) ?hR18
        case hy18 => (intro w hSw; (try dsimp only at hSw); go_simp; try rfl)
        simp only [Act.put, List.setIfInBounds_toArray, List.set_cons_zero, List.set_cons_succ]
        refine wpAnyH_ready (rs := [8]) (by kernel_rfl) (by simp) ?_
        refine AllReadyH.cons (o := _) rfl (fun K hK => ?hC19) AllReadyH.nil
        rw [if_pos (by rfl)]
        go_simp
        go_at_call 100
        refine (H11.out _).mono ?_
        rintro e w7 ⟨rfl, hb7⟩
        have HB7 := below_up (below_drewN HB.out 1) hb7
        have KB7 := KB.out.below (below_up (below_drewN (Below.refl _ _) 1) hb7)
        go_wp2_with fail
        refine hK.out _ _ ?hS19 (fun hHeld => ?hR19)
        case hS19 => exact ⟨KB7.cell 0, KB7.cell 1, KB7.cell 2, KB7.cell 3, KB7.cell 4, KB7.cell 5, KB7.cell 6, KB7.cell 7, KB7.cell 8, KB7.cell 9⟩
        try simp only [Act.put, List.setIfInBounds_toArray, List.set_cons_zero, List.set_cons_succ]
        refine wpAnyH_ready (rs := [9]) (by kernel_rfl) (by simp) ?_
        refine AllReadyH.cons (o := _) rfl (fun K hK => ?hC20) AllReadyH.nil
        rw [if_pos (by rfl)]
        go_simp
        go_at_call 99
        refine (H12.out _).mono ?_
        rintro e w8 ⟨rfl, hb8⟩
        subst hb8
        go_wp2_with fail
        refine hK.out _ _ ?hS20 (fun hHeld => ?hR20)
        case hS20 => exact ⟨KB7.cell 0, KB7.cell 1, KB7.cell 2, KB7.cell 3, KB7.cell 4, KB7.cell 5, KB7.cell 6, KB7.cell 7, KB7.cell 8, KB7.cell 9⟩
        try simp only [Act.put, List.setIfInBounds_toArray, List.set_cons_zero, List.set_cons_succ]
        refine take_op (i := 10) (some 93) (v := ?v21) rfl rfl (by kernel_rfl) (by kernel_rfl) (by kernel_rfl) (fun _ _ _ h => h) (Or.inl ⟨by rfl, ?hy21⟩) (by assumption) ?hR21
        case hy21 => (intro w hSw; (try dsimp only at hSw); go_simp; try rfl)
        simp only [Act.put, List.setIfInBounds_toArray, List.set_cons_zero, List.set_cons_succ]
        refine take_op (i := 11) (some 94) (v := ?v22) rfl rfl (by kernel_rfl) (by kernel_rfl) (by kernel_rfl) (fun _ _ _ h => h) (Or.inl ⟨by rfl, ?hy22⟩) (by assumption) ?hR22
        case hy22 => (intro w hSw; (try dsimp only at hSw); go_simp; try rfl)
        simp only [Act.put, List.setIfInBounds_toArray, List.set_cons_zero, List.set_cons_succ]
        refine take_op (i := 12) (some 95) (v := ?v23) rfl rfl (by kernel_rfl) (by kernel_rfl) (by kernel_rfl) (fun _ _ _ h => h) (Or.inl ⟨by rfl, ?hy23⟩) (by assumption) ?hR23
        case hy23 => (intro w hSw; (try dsimp only at hSw); go_simp; try rfl)
        simp only [Act.put, List.setIfInBounds_toArray, List.set_cons_zero, List.set_cons_succ]
        refine take_op (i := 13) (some 96) (v := undef) rfl rfl (by kernel_rfl) (by kernel_rfl) (by kernel_rfl) (fun _ _ _ h => h) (Or.inr ⟨by rfl, rfl⟩) (by assumption) ?_
        simp only [Act.put, List.setIfInBounds_toArray, List.set_cons_zero, List.set_cons_succ]
        refine take_op (i := 14) (some 97) (v := undef) rfl rfl (by kernel_rfl) (by kernel_rfl) (by kernel_rfl) (fun _ _ _ h => h) (Or.inr ⟨by rfl, rfl⟩) (by assumption) ?_
        simp only [Act.put, List.setIfInBounds_toArray, List.set_cons_zero, List.set_cons_succ]
        refine take_op (i := 15) (some 98) (v := undef) rfl rfl (by kernel_rfl) (by kernel_rfl) (by kernel_rfl) (fun _ _ _ h => h) (Or.inr ⟨by rfl, rfl⟩) (by assumption) ?_
        simp only [Act.put, List.setIfInBounds_toArray, List.set_cons_zero, List.set_cons_succ]
        refine take_op (i := 16) (some 99) (v := undef) rfl rfl (by kernel_rfl) (by kernel_rfl) (by kernel_rfl) (fun _ _ _ h => h) (Or.inr ⟨by rfl, rfl⟩) (by assumption) ?_
        simp only [Act.put, List.setIfInBounds_toArray, List.set_cons_zero, List.set_cons_succ]
        refine take_op (i := 17) (some 100) (v := undef) rfl rfl (by kernel_rfl) (by kernel_rfl) (by kernel_rfl) (fun _ _ _ h => h) (Or.inr ⟨by rfl, rfl⟩) (by assumption) ?_
        simp only [Act.put, List.setIfInBounds_toArray, List.set_cons_zero, List.set_cons_succ]
        refine take_op (i := 18) (some 101) (v := undef) rfl rfl (by kernel_rfl) (by kernel_rfl) (by kernel_rfl) (fun _ _ _ h => h) (Or.inr ⟨by rfl, rfl⟩) (by assumption) ?_
        simp only [Act.put, List.setIfInBounds_toArray, List.set_cons_zero, List.set_cons_succ]
        refine take_op (i := 19) (some 102) (v := undef) rfl rfl (by kernel_rfl) (by kernel_rfl) (by kernel_rfl) (fun _ _ _ h => h) (Or.inr ⟨by rfl, rfl⟩) (by assumption) ?_
        simp only [Act.put, List.setIfInBounds_toArray, List.set_cons_zero, List.set_cons_succ]
        refine take_op (i := 20) (some 103) (v := undef) rfl rfl (by kernel_rfl) (by kernel_rfl) (by kernel_rfl) (fun _ _ _ h => h) (Or.inr ⟨by rfl, rfl⟩) (by assumption) ?_
        simp only [Act.put, List.setIfInBounds_toArray, List.set_cons_zero, List.set_cons_succ]
        refine take_op (i := 21) (some 104) (v := ?v24) rfl rfl (by kernel_rfl) (by kernel_rfl) (by kernel_rfl) (fun _ _ _ h => h) (Or.inl ⟨by rfl, ?hy24⟩) (by assumption) ?hR24
        case hy24 => (intro w hSw; (try dsimp only at hSw); go_simp; try rfl)
        simp only [Act.put, List.setIfInBounds_toArray, List.set_cons_zero, List.set_cons_succ]
        refine wpAnyH_done (by kernel_rfl) ?_ _
        go_wp2
        go_ret
        exact ⟨ret_int hr.out.symm, HB7⟩
      have t2 : decide (0 < cmpI (val df) ls) = false := decide_eq_false (mt hc12.out.1 m2)
      have t2' : ¬ 0 < cmpI (val df) ls := mt hc12.out.1 m2
      have hr : Hid (r = if (rp = [] ∧ df ≠ []) then 2 else 0) := by show _ = _; rw [hr.out]; simp [m2]
      clear m2 hc12
      generalize cmpI (val df) ls = zz at *
      generalize canon ls = cl at *
      by_cases m3 : rp = []
      · by_cases m4 : df = []
        · have hr : Hid (r = 0) := by show _ = _; rw [hr.out]; simp [m4]
          have m3' : rp.isEmpty = true := by simpa using m3
          have m4' : df.isEmpty = true := by simpa using m4
          clear m3 m4
          go_wp2_with fail
          refine wp_region_held_drew (S := (fun W => W.cell? ⟨w.heap.size, 0, none⟩ = some (.string ⟨cause.toArray⟩) ∧ W.cell? ⟨w.heap.size, 1, none⟩ = some (.string ⟨lot.toArray⟩) ∧ W.cell? ⟨w.heap.size, 2, none⟩ = some (.string ⟨ins.toArray⟩) ∧ W.cell? ⟨w.heap.size, 3, none⟩ = some (.int .i64 acq) ∧ W.cell? ⟨w.heap.size, 4, none⟩ = some (.int .i64 cls) ∧ W.cell? ⟨w.heap.size, 5, none⟩ = some (.string ⟨q.toArray⟩) ∧ W.cell? ⟨w.heap.size, 6, none⟩ = some (.string ⟨p.toArray⟩) ∧ W.cell? ⟨w.heap.size, 7, none⟩ = some (.string ⟨c.toArray⟩) ∧ W.cell? ⟨w.heap.size, 8, none⟩ = some (.string ⟨df.toArray⟩) ∧ W.cell? ⟨w.heap.size, 9, none⟩ = some (.string ⟨rp.toArray⟩))) (by kernel_rfl) ?hS25 (fun hHeld => ?hR25)
          case hS25 => exact ⟨KB.out.cell 0, KB.out.cell 1, KB.out.cell 2, KB.out.cell 3, KB.out.cell 4, KB.out.cell 5, KB.out.cell 6, KB.out.cell 7, KB.out.cell 8, KB.out.cell 9⟩
          refine take_op (i := 0) (some 83) (v := ?v26) rfl rfl (by kernel_rfl) (by kernel_rfl) (by kernel_rfl) (fun _ _ _ h => h) (Or.inl ⟨by rfl, ?hy26⟩) (by assumption) ?hR26
          case hy26 => (intro w hSw; (try dsimp only at hSw); go_simp; try rfl)
          simp only [Act.put, List.setIfInBounds_toArray, List.set_cons_zero, List.set_cons_succ]
          refine take_op (i := 1) (some 84) (v := ?v27) rfl rfl (by kernel_rfl) (by kernel_rfl) (by kernel_rfl) (fun _ _ _ h => h) (Or.inl ⟨by rfl, ?hy27⟩) (by assumption) ?hR27
          case hy27 => (intro w hSw; (try dsimp only at hSw); go_simp; try rfl)
          simp only [Act.put, List.setIfInBounds_toArray, List.set_cons_zero, List.set_cons_succ]
          refine wpAnyH_ready (rs := [2]) (by kernel_rfl) (by simp) ?_
          refine AllReadyH.cons (o := _) rfl (fun K hK => ?hC28) AllReadyH.nil
          rw [if_pos (by rfl)]
          go_simp
          go_at_call 73
          refine (H10.out _).mono ?_
          rintro e w6 ⟨rfl, hb6⟩
          subst hb6
          go_wp2_with fail
          refine hK.out _ _ ?hS28 (fun hHeld => ?hR28)
          case hS28 => exact ⟨KB.out.cell 0, KB.out.cell 1, KB.out.cell 2, KB.out.cell 3, KB.out.cell 4, KB.out.cell 5, KB.out.cell 6, KB.out.cell 7, KB.out.cell 8, KB.out.cell 9⟩
          try simp only [Act.put, List.setIfInBounds_toArray, List.set_cons_zero, List.set_cons_succ]
          refine take_op (i := 3) (some 86) (v := ?v29) rfl rfl (by kernel_rfl) (by kernel_rfl) (by kernel_rfl) (fun _ _ _ h => h) (Or.inl ⟨by rfl, ?hy29⟩) (by assumption) ?hR29
          case hy29 => (intro w hSw; (try dsimp only at hSw); go_simp; try rfl)
          simp only [Act.put, List.setIfInBounds_toArray, List.set_cons_zero, List.set_cons_succ]
          refine take_op (i := 4) (some 87) (v := ?v30) rfl rfl (by kernel_rfl) (by kernel_rfl) (by kernel_rfl) (fun _ _ _ h => h) (Or.inl ⟨by rfl, ?hy30⟩) (by assumption) ?hR30
          case hy30 => (intro w hSw; (try dsimp only at hSw); go_simp; try rfl)
          simp only [Act.put, List.setIfInBounds_toArray, List.set_cons_zero, List.set_cons_succ]
          refine take_op (i := 5) (some 88) (v := ?v31) rfl rfl (by kernel_rfl) (by kernel_rfl) (by kernel_rfl) (fun _ _ _ h => h) (Or.inl ⟨by rfl, ?hy31⟩) (by assumption) ?hR31
          case hy31 => (intro w hSw; (try dsimp only at hSw); go_simp; try rfl)
          simp only [Act.put, List.setIfInBounds_toArray, List.set_cons_zero, List.set_cons_succ]
          refine take_op (i := 6) (some 89) (v := ?v32) rfl rfl (by kernel_rfl) (by kernel_rfl) (by kernel_rfl) (fun _ _ _ h => h) (Or.inl ⟨by rfl, ?hy32⟩) (by assumption) ?hR32
          case hy32 => (intro w hSw; (try dsimp only at hSw); go_simp; try rfl)
          simp only [Act.put, List.setIfInBounds_toArray, List.set_cons_zero, List.set_cons_succ]
          refine take_op (i := 7) (some 90) (v := ?v33) rfl rfl (by kernel_rfl) (by kernel_rfl) (by kernel_rfl) (fun _ _ _ h => h) (Or.inl ⟨by rfl, ?hy33⟩) (by assumption) ?hR33
          case hy33 => (intro w hSw; (try dsimp only at hSw); go_simp; try rfl)
          simp only [Act.put, List.setIfInBounds_toArray, List.set_cons_zero, List.set_cons_succ]
          refine wpAnyH_ready (rs := [8]) (by kernel_rfl) (by simp) ?_
          refine AllReadyH.cons (o := _) rfl (fun K hK => ?hC34) AllReadyH.nil
          rw [if_pos (by rfl)]
          go_simp
          go_at_call 100
          refine (H11.out _).mono ?_
          rintro e w7 ⟨rfl, hb7⟩
          have HB7 := below_up (below_drewN HB.out 1) hb7
          have KB7 := KB.out.below (below_up (below_drewN (Below.refl _ _) 1) hb7)
          go_wp2_with fail
          refine hK.out _ _ ?hS34 (fun hHeld => ?hR34)
          case hS34 => exact ⟨KB7.cell 0, KB7.cell 1, KB7.cell 2, KB7.cell 3, KB7.cell 4, KB7.cell 5, KB7.cell 6, KB7.cell 7, KB7.cell 8, KB7.cell 9⟩
          try simp only [Act.put, List.setIfInBounds_toArray, List.set_cons_zero, List.set_cons_succ]
          refine wpAnyH_ready (rs := [9]) (by kernel_rfl) (by simp) ?_
          refine AllReadyH.cons (o := _) rfl (fun K hK => ?hC35) AllReadyH.nil
          rw [if_pos (by rfl)]
          go_simp
          go_at_call 99
          refine (H12.out _).mono ?_
          rintro e w8 ⟨rfl, hb8⟩
          subst hb8
          go_wp2_with fail
          refine hK.out _ _ ?hS35 (fun hHeld => ?hR35)
          case hS35 => exact ⟨KB7.cell 0, KB7.cell 1, KB7.cell 2, KB7.cell 3, KB7.cell 4, KB7.cell 5, KB7.cell 6, KB7.cell 7, KB7.cell 8, KB7.cell 9⟩
          try simp only [Act.put, List.setIfInBounds_toArray, List.set_cons_zero, List.set_cons_succ]
          refine take_op (i := 10) (some 93) (v := ?v36) rfl rfl (by kernel_rfl) (by kernel_rfl) (by kernel_rfl) (fun _ _ _ h => h) (Or.inl ⟨by rfl, ?hy36⟩) (by assumption) ?hR36
          case hy36 => (intro w hSw; (try dsimp only at hSw); go_simp; try rfl)
          simp only [Act.put, List.setIfInBounds_toArray, List.set_cons_zero, List.set_cons_succ]
          refine take_op (i := 11) (some 94) (v := ?v37) rfl rfl (by kernel_rfl) (by kernel_rfl) (by kernel_rfl) (fun _ _ _ h => h) (Or.inl ⟨by rfl, ?hy37⟩) (by assumption) ?hR37
          case hy37 => (intro w hSw; (try dsimp only at hSw); go_simp; try rfl)
          simp only [Act.put, List.setIfInBounds_toArray, List.set_cons_zero, List.set_cons_succ]
          refine take_op (i := 12) (some 95) (v := ?v38) rfl rfl (by kernel_rfl) (by kernel_rfl) (by kernel_rfl) (fun _ _ _ h => h) (Or.inl ⟨by rfl, ?hy38⟩) (by assumption) ?hR38
          case hy38 => (intro w hSw; (try dsimp only at hSw); go_simp; try rfl)
          simp only [Act.put, List.setIfInBounds_toArray, List.set_cons_zero, List.set_cons_succ]
          refine take_op (i := 13) (some 96) (v := ?v39) rfl rfl (by kernel_rfl) (by kernel_rfl) (by kernel_rfl) (fun _ _ _ h => h) (Or.inl ⟨by rfl, ?hy39⟩) (by assumption) ?hR39
          case hy39 => (intro w hSw; (try dsimp only at hSw); go_simp; try rfl)
          simp only [Act.put, List.setIfInBounds_toArray, List.set_cons_zero, List.set_cons_succ]
          refine take_op (i := 14) (some 97) (v := ?v40) rfl rfl (by kernel_rfl) (by kernel_rfl) (by kernel_rfl) (fun _ _ _ h => h) (Or.inl ⟨by rfl, ?hy40⟩) (by assumption) ?hR40
          case hy40 => (intro w hSw; (try dsimp only at hSw); go_simp; try rfl)
          simp only [Act.put, List.setIfInBounds_toArray, List.set_cons_zero, List.set_cons_succ]
          refine take_op (i := 15) (some 98) (v := ?v41) rfl rfl (by kernel_rfl) (by kernel_rfl) (by kernel_rfl) (fun _ _ _ h => h) (Or.inl ⟨by rfl, ?hy41⟩) (by assumption) ?hR41
          case hy41 => (intro w hSw; (try dsimp only at hSw); go_simp; try rfl)
          simp only [Act.put, List.setIfInBounds_toArray, List.set_cons_zero, List.set_cons_succ]
          refine take_op (i := 16) (some 99) (v := ?v42) rfl rfl (by kernel_rfl) (by kernel_rfl) (by kernel_rfl) (fun _ _ _ h => h) (Or.inl ⟨by rfl, ?hy42⟩) (by assumption) ?hR42
          case hy42 => (intro w hSw; (try dsimp only at hSw); go_simp; try rfl)
          simp only [Act.put, List.setIfInBounds_toArray, List.set_cons_zero, List.set_cons_succ]
          refine take_op (i := 17) (some 100) (v := ?v43) rfl rfl (by kernel_rfl) (by kernel_rfl) (by kernel_rfl) (fun _ _ _ h => h) (Or.inl ⟨by rfl, ?hy43⟩) (by assumption) ?hR43
          case hy43 => (intro w hSw; (try dsimp only at hSw); go_simp; try rfl)
          simp only [Act.put, List.setIfInBounds_toArray, List.set_cons_zero, List.set_cons_succ]
          refine take_op (i := 18) (some 101) (v := ?v44) rfl rfl (by kernel_rfl) (by kernel_rfl) (by kernel_rfl) (fun _ _ _ h => h) (Or.inl ⟨by rfl, ?hy44⟩) (by assumption) ?hR44
          case hy44 => (intro w hSw; (try dsimp only at hSw); go_simp; try rfl)
          simp only [Act.put, List.setIfInBounds_toArray, List.set_cons_zero, List.set_cons_succ]
          refine take_op (i := 19) (some 102) (v := ?v45) rfl rfl (by kernel_rfl) (by kernel_rfl) (by kernel_rfl) (fun _ _ _ h => h) (Or.inl ⟨by rfl, ?hy45⟩) (by assumption) ?hR45
          case hy45 => (intro w hSw; (try dsimp only at hSw); go_simp; try rfl)
          simp only [Act.put, List.setIfInBounds_toArray, List.set_cons_zero, List.set_cons_succ]
          refine take_op (i := 20) (some 103) (v := ?v46) rfl rfl (by kernel_rfl) (by kernel_rfl) (by kernel_rfl) (fun _ _ _ h => h) (Or.inl ⟨by rfl, ?hy46⟩) (by assumption) ?hR46
          case hy46 => (intro w hSw; (try dsimp only at hSw); go_simp; try rfl)
          simp only [Act.put, List.setIfInBounds_toArray, List.set_cons_zero, List.set_cons_succ]
          refine take_op (i := 21) (some 104) (v := ?v47) rfl rfl (by kernel_rfl) (by kernel_rfl) (by kernel_rfl) (fun _ _ _ h => h) (Or.inl ⟨by rfl, ?hy47⟩) (by assumption) ?hR47
          case hy47 => (intro w hSw; (try dsimp only at hSw); go_simp; try rfl)
          simp only [Act.put, List.setIfInBounds_toArray, List.set_cons_zero, List.set_cons_succ]
          refine wpAnyH_done (by kernel_rfl) ?_ _
          go_wp2
          go_ret
          exact ⟨ret_int hr.out.symm, HB7⟩
        · have hr : Hid (r = 2) := by show _ = _; rw [hr.out]; simp [m3, m4]
          have m3' : rp.isEmpty = true := by simpa using m3
          have m4' : df.isEmpty = false := by simpa using m4
          clear m3 m4
          go_wp2_with fail
          refine wp_region_held_drew (S := (fun W => W.cell? ⟨w.heap.size, 0, none⟩ = some (.string ⟨cause.toArray⟩) ∧ W.cell? ⟨w.heap.size, 1, none⟩ = some (.string ⟨lot.toArray⟩) ∧ W.cell? ⟨w.heap.size, 2, none⟩ = some (.string ⟨ins.toArray⟩) ∧ W.cell? ⟨w.heap.size, 3, none⟩ = some (.int .i64 acq) ∧ W.cell? ⟨w.heap.size, 4, none⟩ = some (.int .i64 cls) ∧ W.cell? ⟨w.heap.size, 5, none⟩ = some (.string ⟨q.toArray⟩) ∧ W.cell? ⟨w.heap.size, 6, none⟩ = some (.string ⟨p.toArray⟩) ∧ W.cell? ⟨w.heap.size, 7, none⟩ = some (.string ⟨c.toArray⟩) ∧ W.cell? ⟨w.heap.size, 8, none⟩ = some (.string ⟨df.toArray⟩) ∧ W.cell? ⟨w.heap.size, 9, none⟩ = some (.string ⟨rp.toArray⟩))) (by kernel_rfl) ?hS48 (fun hHeld => ?hR48)
          case hS48 => exact ⟨KB.out.cell 0, KB.out.cell 1, KB.out.cell 2, KB.out.cell 3, KB.out.cell 4, KB.out.cell 5, KB.out.cell 6, KB.out.cell 7, KB.out.cell 8, KB.out.cell 9⟩
          refine take_op (i := 0) (some 83) (v := ?v49) rfl rfl (by kernel_rfl) (by kernel_rfl) (by kernel_rfl) (fun _ _ _ h => h) (Or.inl ⟨by rfl, ?hy49⟩) (by assumption) ?hR49
          case hy49 => (intro w hSw; (try dsimp only at hSw); go_simp; try rfl)
          simp only [Act.put, List.setIfInBounds_toArray, List.set_cons_zero, List.set_cons_succ]
          refine take_op (i := 1) (some 84) (v := ?v50) rfl rfl (by kernel_rfl) (by kernel_rfl) (by kernel_rfl) (fun _ _ _ h => h) (Or.inl ⟨by rfl, ?hy50⟩) (by assumption) ?hR50
          case hy50 => (intro w hSw; (try dsimp only at hSw); go_simp; try rfl)
          simp only [Act.put, List.setIfInBounds_toArray, List.set_cons_zero, List.set_cons_succ]
          refine wpAnyH_ready (rs := [2]) (by kernel_rfl) (by simp) ?_
          refine AllReadyH.cons (o := _) rfl (fun K hK => ?hC51) AllReadyH.nil
          rw [if_pos (by rfl)]
          go_simp
          go_at_call 73
          refine (H10.out _).mono ?_
          rintro e w6 ⟨rfl, hb6⟩
          subst hb6
          go_wp2_with fail
          refine hK.out _ _ ?hS51 (fun hHeld => ?hR51)
          case hS51 => exact ⟨KB.out.cell 0, KB.out.cell 1, KB.out.cell 2, KB.out.cell 3, KB.out.cell 4, KB.out.cell 5, KB.out.cell 6, KB.out.cell 7, KB.out.cell 8, KB.out.cell 9⟩
          try simp only [Act.put, List.setIfInBounds_toArray, List.set_cons_zero, List.set_cons_succ]
          refine take_op (i := 3) (some 86) (v := ?v52) rfl rfl (by kernel_rfl) (by kernel_rfl) (by kernel_rfl) (fun _ _ _ h => h) (Or.inl ⟨by rfl, ?hy52⟩) (by assumption) ?hR52
          case hy52 => (intro w hSw; (try dsimp only at hSw); go_simp; try rfl)
          simp only [Act.put, List.setIfInBounds_toArray, List.set_cons_zero, List.set_cons_succ]
          refine take_op (i := 4) (some 87) (v := ?v53) rfl rfl (by kernel_rfl) (by kernel_rfl) (by kernel_rfl) (fun _ _ _ h => h) (Or.inl ⟨by rfl, ?hy53⟩) (by assumption) ?hR53
          case hy53 => (intro w hSw; (try dsimp only at hSw); go_simp; try rfl)
          simp only [Act.put, List.setIfInBounds_toArray, List.set_cons_zero, List.set_cons_succ]
          refine take_op (i := 5) (some 88) (v := ?v54) rfl rfl (by kernel_rfl) (by kernel_rfl) (by kernel_rfl) (fun _ _ _ h => h) (Or.inl ⟨by rfl, ?hy54⟩) (by assumption) ?hR54
          case hy54 => (intro w hSw; (try dsimp only at hSw); go_simp; try rfl)
          simp only [Act.put, List.setIfInBounds_toArray, List.set_cons_zero, List.set_cons_succ]
          refine take_op (i := 6) (some 89) (v := ?v55) rfl rfl (by kernel_rfl) (by kernel_rfl) (by kernel_rfl) (fun _ _ _ h => h) (Or.inl ⟨by rfl, ?hy55⟩) (by assumption) ?hR55
          case hy55 => (intro w hSw; (try dsimp only at hSw); go_simp; try rfl)
          simp only [Act.put, List.setIfInBounds_toArray, List.set_cons_zero, List.set_cons_succ]
          refine take_op (i := 7) (some 90) (v := ?v56) rfl rfl (by kernel_rfl) (by kernel_rfl) (by kernel_rfl) (fun _ _ _ h => h) (Or.inl ⟨by rfl, ?hy56⟩) (by assumption) ?hR56
          case hy56 => (intro w hSw; (try dsimp only at hSw); go_simp; try rfl)
          simp only [Act.put, List.setIfInBounds_toArray, List.set_cons_zero, List.set_cons_succ]
          refine wpAnyH_ready (rs := [8]) (by kernel_rfl) (by simp) ?_
          refine AllReadyH.cons (o := _) rfl (fun K hK => ?hC57) AllReadyH.nil
          rw [if_pos (by rfl)]
          go_simp
          go_at_call 100
          refine (H11.out _).mono ?_
          rintro e w7 ⟨rfl, hb7⟩
          have HB7 := below_up (below_drewN HB.out 1) hb7
          have KB7 := KB.out.below (below_up (below_drewN (Below.refl _ _) 1) hb7)
          go_wp2_with fail
          refine hK.out _ _ ?hS57 (fun hHeld => ?hR57)
          case hS57 => exact ⟨KB7.cell 0, KB7.cell 1, KB7.cell 2, KB7.cell 3, KB7.cell 4, KB7.cell 5, KB7.cell 6, KB7.cell 7, KB7.cell 8, KB7.cell 9⟩
          try simp only [Act.put, List.setIfInBounds_toArray, List.set_cons_zero, List.set_cons_succ]
          refine wpAnyH_ready (rs := [9]) (by kernel_rfl) (by simp) ?_
          refine AllReadyH.cons (o := _) rfl (fun K hK => ?hC58) AllReadyH.nil
          rw [if_pos (by rfl)]
          go_simp
          go_at_call 99
          refine (H12.out _).mono ?_
          rintro e w8 ⟨rfl, hb8⟩
          subst hb8
          go_wp2_with fail
          refine hK.out _ _ ?hS58 (fun hHeld => ?hR58)
          case hS58 => exact ⟨KB7.cell 0, KB7.cell 1, KB7.cell 2, KB7.cell 3, KB7.cell 4, KB7.cell 5, KB7.cell 6, KB7.cell 7, KB7.cell 8, KB7.cell 9⟩
          try simp only [Act.put, List.setIfInBounds_toArray, List.set_cons_zero, List.set_cons_succ]
          refine take_op (i := 10) (some 93) (v := ?v59) rfl rfl (by kernel_rfl) (by kernel_rfl) (by kernel_rfl) (fun _ _ _ h => h) (Or.inl ⟨by rfl, ?hy59⟩) (by assumption) ?hR59
          case hy59 => (intro w hSw; (try dsimp only at hSw); go_simp; try rfl)
          simp only [Act.put, List.setIfInBounds_toArray, List.set_cons_zero, List.set_cons_succ]
          refine take_op (i := 11) (some 94) (v := ?v60) rfl rfl (by kernel_rfl) (by kernel_rfl) (by kernel_rfl) (fun _ _ _ h => h) (Or.inl ⟨by rfl, ?hy60⟩) (by assumption) ?hR60
          case hy60 => (intro w hSw; (try dsimp only at hSw); go_simp; try rfl)
          simp only [Act.put, List.setIfInBounds_toArray, List.set_cons_zero, List.set_cons_succ]
          refine take_op (i := 12) (some 95) (v := ?v61) rfl rfl (by kernel_rfl) (by kernel_rfl) (by kernel_rfl) (fun _ _ _ h => h) (Or.inl ⟨by rfl, ?hy61⟩) (by assumption) ?hR61
          case hy61 => (intro w hSw; (try dsimp only at hSw); go_simp; try rfl)
          simp only [Act.put, List.setIfInBounds_toArray, List.set_cons_zero, List.set_cons_succ]
          refine take_op (i := 13) (some 96) (v := ?v62) rfl rfl (by kernel_rfl) (by kernel_rfl) (by kernel_rfl) (fun _ _ _ h => h) (Or.inl ⟨by rfl, ?hy62⟩) (by assumption) ?hR62
          case hy62 => (intro w hSw; (try dsimp only at hSw); go_simp; try rfl)
          simp only [Act.put, List.setIfInBounds_toArray, List.set_cons_zero, List.set_cons_succ]
          refine take_op (i := 14) (some 97) (v := ?v63) rfl rfl (by kernel_rfl) (by kernel_rfl) (by kernel_rfl) (fun _ _ _ h => h) (Or.inl ⟨by rfl, ?hy63⟩) (by assumption) ?hR63
          case hy63 => (intro w hSw; (try dsimp only at hSw); go_simp; try rfl)
          simp only [Act.put, List.setIfInBounds_toArray, List.set_cons_zero, List.set_cons_succ]
          refine take_op (i := 15) (some 98) (v := ?v64) rfl rfl (by kernel_rfl) (by kernel_rfl) (by kernel_rfl) (fun _ _ _ h => h) (Or.inl ⟨by rfl, ?hy64⟩) (by assumption) ?hR64
          case hy64 => (intro w hSw; (try dsimp only at hSw); go_simp; try rfl)
          simp only [Act.put, List.setIfInBounds_toArray, List.set_cons_zero, List.set_cons_succ]
          refine take_op (i := 16) (some 99) (v := ?v65) rfl rfl (by kernel_rfl) (by kernel_rfl) (by kernel_rfl) (fun _ _ _ h => h) (Or.inl ⟨by rfl, ?hy65⟩) (by assumption) ?hR65
          case hy65 => (intro w hSw; (try dsimp only at hSw); go_simp; try rfl)
          simp only [Act.put, List.setIfInBounds_toArray, List.set_cons_zero, List.set_cons_succ]
          refine take_op (i := 17) (some 100) (v := ?v66) rfl rfl (by kernel_rfl) (by kernel_rfl) (by kernel_rfl) (fun _ _ _ h => h) (Or.inl ⟨by rfl, ?hy66⟩) (by assumption) ?hR66
          case hy66 => (intro w hSw; (try dsimp only at hSw); go_simp; try rfl)
          simp only [Act.put, List.setIfInBounds_toArray, List.set_cons_zero, List.set_cons_succ]
          refine take_op (i := 18) (some 101) (v := ?v67) rfl rfl (by kernel_rfl) (by kernel_rfl) (by kernel_rfl) (fun _ _ _ h => h) (Or.inl ⟨by rfl, ?hy67⟩) (by assumption) ?hR67
          case hy67 => (intro w hSw; (try dsimp only at hSw); go_simp; try rfl)
          simp only [Act.put, List.setIfInBounds_toArray, List.set_cons_zero, List.set_cons_succ]
          refine take_op (i := 19) (some 102) (v := ?v68) rfl rfl (by kernel_rfl) (by kernel_rfl) (by kernel_rfl) (fun _ _ _ h => h) (Or.inl ⟨by rfl, ?hy68⟩) (by assumption) ?hR68
          case hy68 => (intro w hSw; (try dsimp only at hSw); go_simp; try rfl)
          simp only [Act.put, List.setIfInBounds_toArray, List.set_cons_zero, List.set_cons_succ]
          refine take_op (i := 20) (some 103) (v := ?v69) rfl rfl (by kernel_rfl) (by kernel_rfl) (by kernel_rfl) (fun _ _ _ h => h) (Or.inl ⟨by rfl, ?hy69⟩) (by assumption) ?hR69
          case hy69 => (intro w hSw; (try dsimp only at hSw); go_simp; try rfl)
          simp only [Act.put, List.setIfInBounds_toArray, List.set_cons_zero, List.set_cons_succ]
          refine take_op (i := 21) (some 104) (v := ?v70) rfl rfl (by kernel_rfl) (by kernel_rfl) (by kernel_rfl) (fun _ _ _ h => h) (Or.inl ⟨by rfl, ?hy70⟩) (by assumption) ?hR70
          case hy70 => (intro w hSw; (try dsimp only at hSw); go_simp; try rfl)
          simp only [Act.put, List.setIfInBounds_toArray, List.set_cons_zero, List.set_cons_succ]
          refine wpAnyH_done (by kernel_rfl) ?_ _
          go_wp2
          go_ret
          exact ⟨ret_int hr.out.symm, HB7⟩
      · have hr : Hid (r = 0) := by show _ = _; rw [hr.out]; simp [m3]
        have m3' : rp.isEmpty = false := by simpa using m3
        clear m3
        go_wp2_with fail
        refine wp_region_held_drew (S := (fun W => W.cell? ⟨w.heap.size, 0, none⟩ = some (.string ⟨cause.toArray⟩) ∧ W.cell? ⟨w.heap.size, 1, none⟩ = some (.string ⟨lot.toArray⟩) ∧ W.cell? ⟨w.heap.size, 2, none⟩ = some (.string ⟨ins.toArray⟩) ∧ W.cell? ⟨w.heap.size, 3, none⟩ = some (.int .i64 acq) ∧ W.cell? ⟨w.heap.size, 4, none⟩ = some (.int .i64 cls) ∧ W.cell? ⟨w.heap.size, 5, none⟩ = some (.string ⟨q.toArray⟩) ∧ W.cell? ⟨w.heap.size, 6, none⟩ = some (.string ⟨p.toArray⟩) ∧ W.cell? ⟨w.heap.size, 7, none⟩ = some (.string ⟨c.toArray⟩) ∧ W.cell? ⟨w.heap.size, 8, none⟩ = some (.string ⟨df.toArray⟩) ∧ W.cell? ⟨w.heap.size, 9, none⟩ = some (.string ⟨rp.toArray⟩))) (by kernel_rfl) ?hS71 (fun hHeld => ?hR71)
        case hS71 => exact ⟨KB.out.cell 0, KB.out.cell 1, KB.out.cell 2, KB.out.cell 3, KB.out.cell 4, KB.out.cell 5, KB.out.cell 6, KB.out.cell 7, KB.out.cell 8, KB.out.cell 9⟩
        refine take_op (i := 0) (some 83) (v := ?v72) rfl rfl (by kernel_rfl) (by kernel_rfl) (by kernel_rfl) (fun _ _ _ h => h) (Or.inl ⟨by rfl, ?hy72⟩) (by assumption) ?hR72
        case hy72 => (intro w hSw; (try dsimp only at hSw); go_simp; try rfl)
        simp only [Act.put, List.setIfInBounds_toArray, List.set_cons_zero, List.set_cons_succ]
        refine take_op (i := 1) (some 84) (v := ?v73) rfl rfl (by kernel_rfl) (by kernel_rfl) (by kernel_rfl) (fun _ _ _ h => h) (Or.inl ⟨by rfl, ?hy73⟩) (by assumption) ?hR73
        case hy73 => (intro w hSw; (try dsimp only at hSw); go_simp; try rfl)
        simp only [Act.put, List.setIfInBounds_toArray, List.set_cons_zero, List.set_cons_succ]
        refine wpAnyH_ready (rs := [2]) (by kernel_rfl) (by simp) ?_
        refine AllReadyH.cons (o := _) rfl (fun K hK => ?hC74) AllReadyH.nil
        rw [if_pos (by rfl)]
        go_simp
        go_at_call 73
        refine (H10.out _).mono ?_
        rintro e w6 ⟨rfl, hb6⟩
        subst hb6
        go_wp2_with fail
        refine hK.out _ _ ?hS74 (fun hHeld => ?hR74)
        case hS74 => exact ⟨KB.out.cell 0, KB.out.cell 1, KB.out.cell 2, KB.out.cell 3, KB.out.cell 4, KB.out.cell 5, KB.out.cell 6, KB.out.cell 7, KB.out.cell 8, KB.out.cell 9⟩
        try simp only [Act.put, List.setIfInBounds_toArray, List.set_cons_zero, List.set_cons_succ]
        refine take_op (i := 3) (some 86) (v := ?v75) rfl rfl (by kernel_rfl) (by kernel_rfl) (by kernel_rfl) (fun _ _ _ h => h) (Or.inl ⟨by rfl, ?hy75⟩) (by assumption) ?hR75
        case hy75 => (intro w hSw; (try dsimp only at hSw); go_simp; try rfl)
        simp only [Act.put, List.setIfInBounds_toArray, List.set_cons_zero, List.set_cons_succ]
        refine take_op (i := 4) (some 87) (v := ?v76) rfl rfl (by kernel_rfl) (by kernel_rfl) (by kernel_rfl) (fun _ _ _ h => h) (Or.inl ⟨by rfl, ?hy76⟩) (by assumption) ?hR76
        case hy76 => (intro w hSw; (try dsimp only at hSw); go_simp; try rfl)
        simp only [Act.put, List.setIfInBounds_toArray, List.set_cons_zero, List.set_cons_succ]
        refine take_op (i := 5) (some 88) (v := ?v77) rfl rfl (by kernel_rfl) (by kernel_rfl) (by kernel_rfl) (fun _ _ _ h => h) (Or.inl ⟨by rfl, ?hy77⟩) (by assumption) ?hR77
        case hy77 => (intro w hSw; (try dsimp only at hSw); go_simp; try rfl)
        simp only [Act.put, List.setIfInBounds_toArray, List.set_cons_zero, List.set_cons_succ]
        refine take_op (i := 6) (some 89) (v := ?v78) rfl rfl (by kernel_rfl) (by kernel_rfl) (by kernel_rfl) (fun _ _ _ h => h) (Or.inl ⟨by rfl, ?hy78⟩) (by assumption) ?hR78
        case hy78 => (intro w hSw; (try dsimp only at hSw); go_simp; try rfl)
        simp only [Act.put, List.setIfInBounds_toArray, List.set_cons_zero, List.set_cons_succ]
        refine take_op (i := 7) (some 90) (v := ?v79) rfl rfl (by kernel_rfl) (by kernel_rfl) (by kernel_rfl) (fun _ _ _ h => h) (Or.inl ⟨by rfl, ?hy79⟩) (by assumption) ?hR79
        case hy79 => (intro w hSw; (try dsimp only at hSw); go_simp; try rfl)
        simp only [Act.put, List.setIfInBounds_toArray, List.set_cons_zero, List.set_cons_succ]
        refine wpAnyH_ready (rs := [8]) (by kernel_rfl) (by simp) ?_
        refine AllReadyH.cons (o := _) rfl (fun K hK => ?hC80) AllReadyH.nil
        rw [if_pos (by rfl)]
        go_simp
        go_at_call 100
        refine (H11.out _).mono ?_
        rintro e w7 ⟨rfl, hb7⟩
        have HB7 := below_up (below_drewN HB.out 1) hb7
        have KB7 := KB.out.below (below_up (below_drewN (Below.refl _ _) 1) hb7)
        go_wp2_with fail
        refine hK.out _ _ ?hS80 (fun hHeld => ?hR80)
        case hS80 => exact ⟨KB7.cell 0, KB7.cell 1, KB7.cell 2, KB7.cell 3, KB7.cell 4, KB7.cell 5, KB7.cell 6, KB7.cell 7, KB7.cell 8, KB7.cell 9⟩
        try simp only [Act.put, List.setIfInBounds_toArray, List.set_cons_zero, List.set_cons_succ]
        refine wpAnyH_ready (rs := [9]) (by kernel_rfl) (by simp) ?_
        refine AllReadyH.cons (o := _) rfl (fun K hK => ?hC81) AllReadyH.nil
        rw [if_pos (by rfl)]
        go_simp
        go_at_call 99
        refine (H12.out _).mono ?_
        rintro e w8 ⟨rfl, hb8⟩
        subst hb8
        go_wp2_with fail
        refine hK.out _ _ ?hS81 (fun hHeld => ?hR81)
        case hS81 => exact ⟨KB7.cell 0, KB7.cell 1, KB7.cell 2, KB7.cell 3, KB7.cell 4, KB7.cell 5, KB7.cell 6, KB7.cell 7, KB7.cell 8, KB7.cell 9⟩
        try simp only [Act.put, List.setIfInBounds_toArray, List.set_cons_zero, List.set_cons_succ]
        refine take_op (i := 10) (some 93) (v := ?v82) rfl rfl (by kernel_rfl) (by kernel_rfl) (by kernel_rfl) (fun _ _ _ h => h) (Or.inl ⟨by rfl, ?hy82⟩) (by assumption) ?hR82
        case hy82 => (intro w hSw; (try dsimp only at hSw); go_simp; try rfl)
        simp only [Act.put, List.setIfInBounds_toArray, List.set_cons_zero, List.set_cons_succ]
        refine take_op (i := 11) (some 94) (v := ?v83) rfl rfl (by kernel_rfl) (by kernel_rfl) (by kernel_rfl) (fun _ _ _ h => h) (Or.inl ⟨by rfl, ?hy83⟩) (by assumption) ?hR83
        case hy83 => (intro w hSw; (try dsimp only at hSw); go_simp; try rfl)
        simp only [Act.put, List.setIfInBounds_toArray, List.set_cons_zero, List.set_cons_succ]
        refine take_op (i := 12) (some 95) (v := ?v84) rfl rfl (by kernel_rfl) (by kernel_rfl) (by kernel_rfl) (fun _ _ _ h => h) (Or.inl ⟨by rfl, ?hy84⟩) (by assumption) ?hR84
        case hy84 => (intro w hSw; (try dsimp only at hSw); go_simp; try rfl)
        simp only [Act.put, List.setIfInBounds_toArray, List.set_cons_zero, List.set_cons_succ]
        refine take_op (i := 13) (some 96) (v := ?v85) rfl rfl (by kernel_rfl) (by kernel_rfl) (by kernel_rfl) (fun _ _ _ h => h) (Or.inl ⟨by rfl, ?hy85⟩) (by assumption) ?hR85
        case hy85 => (intro w hSw; (try dsimp only at hSw); go_simp; try rfl)
        simp only [Act.put, List.setIfInBounds_toArray, List.set_cons_zero, List.set_cons_succ]
        refine take_op (i := 14) (some 97) (v := ?v86) rfl rfl (by kernel_rfl) (by kernel_rfl) (by kernel_rfl) (fun _ _ _ h => h) (Or.inl ⟨by rfl, ?hy86⟩) (by assumption) ?hR86
        case hy86 => (intro w hSw; (try dsimp only at hSw); go_simp; try rfl)
        simp only [Act.put, List.setIfInBounds_toArray, List.set_cons_zero, List.set_cons_succ]
        refine take_op (i := 15) (some 98) (v := ?v87) rfl rfl (by kernel_rfl) (by kernel_rfl) (by kernel_rfl) (fun _ _ _ h => h) (Or.inl ⟨by rfl, ?hy87⟩) (by assumption) ?hR87
        case hy87 => (intro w hSw; (try dsimp only at hSw); go_simp; try rfl)
        simp only [Act.put, List.setIfInBounds_toArray, List.set_cons_zero, List.set_cons_succ]
        refine take_op (i := 16) (some 99) (v := ?v88) rfl rfl (by kernel_rfl) (by kernel_rfl) (by kernel_rfl) (fun _ _ _ h => h) (Or.inl ⟨by rfl, ?hy88⟩) (by assumption) ?hR88
        case hy88 => (intro w hSw; (try dsimp only at hSw); go_simp; try rfl)
        simp only [Act.put, List.setIfInBounds_toArray, List.set_cons_zero, List.set_cons_succ]
        refine take_op (i := 17) (some 100) (v := undef) rfl rfl (by kernel_rfl) (by kernel_rfl) (by kernel_rfl) (fun _ _ _ h => h) (Or.inr ⟨by rfl, rfl⟩) (by assumption) ?_
        simp only [Act.put, List.setIfInBounds_toArray, List.set_cons_zero, List.set_cons_succ]
        refine take_op (i := 18) (some 101) (v := undef) rfl rfl (by kernel_rfl) (by kernel_rfl) (by kernel_rfl) (fun _ _ _ h => h) (Or.inr ⟨by rfl, rfl⟩) (by assumption) ?_
        simp only [Act.put, List.setIfInBounds_toArray, List.set_cons_zero, List.set_cons_succ]
        refine take_op (i := 19) (some 102) (v := undef) rfl rfl (by kernel_rfl) (by kernel_rfl) (by kernel_rfl) (fun _ _ _ h => h) (Or.inr ⟨by rfl, rfl⟩) (by assumption) ?_
        simp only [Act.put, List.setIfInBounds_toArray, List.set_cons_zero, List.set_cons_succ]
        refine take_op (i := 20) (some 103) (v := ?v89) rfl rfl (by kernel_rfl) (by kernel_rfl) (by kernel_rfl) (fun _ _ _ h => h) (Or.inl ⟨by rfl, ?hy89⟩) (by assumption) ?hR89
        case hy89 => (intro w hSw; (try dsimp only at hSw); go_simp; try rfl)
        simp only [Act.put, List.setIfInBounds_toArray, List.set_cons_zero, List.set_cons_succ]
        refine take_op (i := 21) (some 104) (v := ?v90) rfl rfl (by kernel_rfl) (by kernel_rfl) (by kernel_rfl) (fun _ _ _ h => h) (Or.inl ⟨by rfl, ?hy90⟩) (by assumption) ?hR90
        case hy90 => (intro w hSw; (try dsimp only at hSw); go_simp; try rfl)
        simp only [Act.put, List.setIfInBounds_toArray, List.set_cons_zero, List.set_cons_succ]
        refine wpAnyH_done (by kernel_rfl) ?_ _
        go_wp2
        go_ret
        exact ⟨ret_int hr.out.symm, HB7⟩
end Go.Proofs.YthlpfefckhdpiaaGreatDoor
