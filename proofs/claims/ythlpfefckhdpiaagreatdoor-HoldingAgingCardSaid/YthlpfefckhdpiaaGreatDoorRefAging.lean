/- trancheref23.Aging: it returns what holding.Aging returns. -/
import Derived.Test.YthlpfefckhdpiaaGreatDoorAging
import Derived.Test.YthlpfefckhdpiaaGreatDoorRefAdd
namespace Go.Proofs.YthlpfefckhdpiaaGreatDoor
open Go.RowKit Num Dt
attribute [local go_sem] str_append str_extract str_size setCell_drewN

theorem count_any (m : Int) (w : World) : Calls Tryz.prog 48 #[.int .i64 m] w fun e w' => e = .returned (.bool !(bad m)) ∧ w = w' := by
  by_cases h : 0 ≤ m ∧ m ≤ 120
  · rw [show bad m = false by unfold bad; simp; omega]; exact count_yes m w h.1 h.2
  · rw [show bad m = true by unfold bad; simp; omega]; exact count_no m w (by omega)
theorem rday_any (d : Int) (w : World) : Calls Tryz.prog 49 #[.int .i64 d] w fun e w' => e = .returned (.bool (vday d)) ∧ w = w' := by
  by_cases h : -25567 ≤ d ∧ d ≤ 84005
  · rw [show vday d = true by unfold vday; simp [h]]; exact rday_yes d w h.1 h.2
  · rw [show vday d = false by unfold vday; simp; omega]; exact rday_no d w (by omega)
theorem range_any_le {f : Nat → Bool} {n k : Nat} (h : n ≤ k) (hf : (List.range k).any f = false) : (List.range n).any f = false := by
  rw [List.any_eq_false] at hf ⊢
  exact fun x hx => hf x (List.mem_range.2 (by have := List.mem_range.1 hx; omega))
theorem filter_len_take {p : Int → Bool} {zs : List Int} {k : Nat} {z : Int} (hz : zs[k]? = some z) : ((zs.take (k + 1)).filter p).length = ((zs.take k).filter p).length + (if p z = true then 1 else 0) := by
  rw [filter_take hz]; split <;> simp
/-- what the rounds of the lots keep -/
def RAges (W : World) (bo : Nat) (d : Int) (zs : List Int) (ls : List LotP) (r : List (List UInt8) × Int) (k : Nat) : Prop :=
  ∃ out, out.length = zs.length + 1 ∧ W.heap[bo]? = some (.cells (strs out).toArray 33 (0, 0)) ∧ (∀ s, s ∈ out → s.length ≤ 1000 + 2 * k ∧ (val s).natAbs ≤ k * 10000000000000) ∧ r = agFin (ageAll d zs out (ls.drop k))
set_option maxHeartbeats 4000000 in
set_option maxRecDepth 100000 in
theorem raging_any (ls : List LotP) (d : Int) (zs : List Int) (a a2 : Option Addr) (c c2 : Nat) (w : World) (hn : ls.length ≤ 12) (hc : ls.length ≤ c) (hn2 : zs.length ≤ 100) (hw : Lots w a ls) (hw2 : Ints w a2 zs) (hs : ∀ x, x ∈ ls → x.small ∧ x.c.length ≤ 13) :
    Calls Tryz.prog 16 #[.slice a ls.length c, .int .i64 d, .slice a2 zs.length c2] w fun e w' => (∃ a3 c3, e = .returned (.tuple #[.slice a3 (aging ls d zs).1.length c3, .int .i64 (aging ls d zs).2]) ∧ Row w' a3 (strs (aging ls d zs).1)) ∧ Below w.heap.size w w' := by
  have HS := Lib.hid hs
  have HW := Lib.hid hw
  have HW2 := Lib.hid hw2
  have H1 := Lib.hid (rcheckAll_any ls a c w hn hc hw (fun x hx => (hs x hx).1))
  clear hs hw hw2
  have hr : Hid (aging ls d zs = if scanErr [] ls ≠ 0 then ([], 1) else if zs.any bad = true then ([], 2) else if vday d = false then ([], 13) else if falls zs = true then ([], 8)
  else agFin (ageAll d zs (List.replicate (zs.length + 1) []) ls)) := rfl
  generalize aging ls d zs = r at *
  have H2 := Lib.hid count_any
  have H3 := Lib.hid (rday_any d)
  go_enter Tryz.func16, Tryz.ntmps16
  go_wp2_with fail
  refine H1.out.mono ?_
  rintro e w1 ⟨rfl, HB⟩
  have HB := Lib.hid HB
  clear H1
  by_cases g1 : scanErr [] ls = 0
  case neg =>
    have g1' : (scanErr [] ls != 0) = true := by simpa using g1
    have hq : Hid (r = ([], 1)) := by show _ = _; rw [hr.out, if_pos g1]
    clear hr
    generalize scanErr [] ls = q at *
    go_wp2
    go_ret2
    rw [hq.out]
    exact ⟨⟨_, _, rfl, .inl rfl⟩, below_up HB.out (below_alloc w1 _)⟩
  have hr : Hid (r = if zs.any bad = true then ([], 2) else if vday d = false then ([], 13) else if falls zs = true then ([], 8)
  else agFin (ageAll d zs (List.replicate (zs.length + 1) []) ls)) := by show _ = _; rw [hr.out, if_neg (by simp [g1])]
  rw [g1]
  clear g1
  go_wp2_with fail
  go_loop [8] (fun i => ∃ k : Nat, k ≤ zs.length ∧ i = .int .i64 (k : Int) ∧ Hid ((zs.take k).any bad = false)) (fun i => zs.length - (intOf i).toNat)
  case atStart => exact ⟨0, Nat.zero_le _, rfl, rfl⟩
  case round =>
    obtain ⟨k, hk, rfl, hp⟩ := hrel
    by_cases hlt : k < zs.length
    · obtain ⟨z, hz⟩ : ∃ z, zs[k]? = some z := ⟨zs[k], List.getElem?_eq_getElem hlt⟩
      obtain ⟨b, off, ha, k0⟩ := (HW2.out.below HB.out).addr hz
      subst ha
      have HX := Lib.hid (fun h => any_hit (p := bad) hz h)
      have HY := Lib.hid (fun h => any_take_false (p := bad) hz hp.out h)
      clear hz
      go_wp2_with fail
      refine (H2.out z _).mono ?_
      rintro e w2 ⟨rfl, rfl⟩
      cases hb : bad z
      · go_wp2
        go_round
        case rel => exact ⟨k + 1, by omega, by go_num, HY.out hb⟩
        case measure => simp [intOf]; omega
      · have hr : Hid (r = ([], 2)) := by show _ = _; rw [hr.out, if_pos (HX.out hb)]
        go_wp2
        go_ret2
        rw [hr.out]
        exact ⟨⟨_, _, rfl, .inl rfl⟩, below_up HB.out (below_alloc w1 _)⟩
    · obtain rfl : k = zs.length := by omega
      have hr : Hid (r = if vday d = false then ([], 13) else if falls zs = true then ([], 8)
        else agFin (ageAll d zs (List.replicate (zs.length + 1) []) ls)) := by show _ = _; rw [hr.out, if_neg (by have := hp.out; rw [List.take_length] at this; simp [this])]
      clear hp
      go_wp2_with fail
      refine (H3.out _).mono ?_
      rintro e w2 ⟨rfl, rfl⟩
      cases gv : vday d
      · have hr : Hid (r = ([], 13)) := by show _ = _; rw [hr.out, if_pos gv]
        go_wp2
        go_ret2
        rw [hr.out]
        exact ⟨⟨_, _, rfl, .inl rfl⟩, below_up HB.out (below_alloc w1 _)⟩
      have hr : Hid (r = if falls zs = true then ([], 8) else agFin (ageAll d zs (List.replicate (zs.length + 1) []) ls)) := by show _ = _; rw [hr.out, if_neg (by simp [gv])]
      clear gv
      go_wp2_with fail
      go_loopw [9] (fun i W => Hid (Below w.heap.size w W) ∧ ∃ k : Nat, 1 ≤ k ∧ k ≤ zs.length + 1 ∧ i = .int .i64 (k : Int) ∧ Hid ((List.range k).any (fallAt zs) = false)) (fun i _ => zs.length - (intOf i).toNat)
      case atStart => exact ⟨HB, 1, Nat.le_refl _, by omega, rfl, rfl⟩
      case round =>
        clear HB
        obtain ⟨HB, k, hk1, hk, rfl, hp⟩ := hrel
        by_cases hlt : k < zs.length
        · obtain ⟨j, rfl⟩ : ∃ j, k = j + 1 := ⟨k - 1, by omega⟩
          obtain ⟨z, hz⟩ : ∃ z, zs[j + 1]? = some z := ⟨zs[j + 1], List.getElem?_eq_getElem hlt⟩
          obtain ⟨b, off, ha, k0⟩ := (HW2.out.below HB.out).addr hz
          subst ha
          obtain ⟨y, hy⟩ : ∃ y, zs[j]? = some y := ⟨zs[j], List.getElem?_eq_getElem (by omega)⟩
          obtain ⟨b', off', ha', k1⟩ := (HW2.out.below HB.out).addr hy
          injection ha' with ha'
          injection ha' with e1 e2
          subst e1 e2
          have HF := Lib.hid (fallAt_succ hy hz)
          have HX := Lib.hid (fun h => falls_hit hlt h)
          have HY := Lib.hid (fun h => falls_step hp.out h)
          clear hy hz
          by_cases g : z ≤ y
          · have hr : Hid (r = ([], 8)) := by show _ = _; rw [hr.out, if_pos (HX.out (by rw [HF.out]; simp [g]))]
            go_wp2_with fail
            go_quiet (fail)
            go_wp2
            go_ret2
            rw [hr.out]
            exact ⟨⟨_, _, rfl, .inl rfl⟩, below_up (below_drewN HB.out _) (below_alloc (wr.drewN _) _)⟩
          · have HP := Lib.hid (HY.out (by rw [HF.out]; simp [g]))
            go_wp2_with fail
            go_quiet (fail)
            go_wp2
            go_round
            case rel => exact ⟨below_drewN HB.out _, j + 2, by omega, by omega, by go_num, HP⟩
            case measure => simp [intOf]; omega
        · have hr : Hid (r = agFin (ageAll d zs (List.replicate (zs.length + 1) []) ls)) := by show _ = _; rw [hr.out, if_neg (by unfold falls; simp [range_any_le (show zs.length ≤ k by omega) hp.out])]
          have hlt' : ¬ (k : Int) < zs.length := by omega
          obtain ⟨bo, hbo'⟩ : ∃ bo, bo = wr.heap.size := ⟨_, rfl⟩
          have hmk : (Instr.makeSlice 28 (.int .i64 ((zs.length : Int) + 1)) (.int .i64 ((zs.length : Int) + 1))).run Tryz.prog wr = .ok (.slice (some ⟨bo, 0, none⟩) (zs.length + 1) (zs.length + 1)) (wr.alloc (.cells (strs (List.replicate (zs.length + 1) [])).toArray 33)) := by rw [hbo']; simpa using make_strs (zs.length + 1) (by omega) wr
          have hA : Hid (RAges (wr.alloc (.cells (strs (List.replicate (zs.length + 1) [])).toArray 33)) bo d zs ls r 0) := ⟨List.replicate (zs.length + 1) [], by simp, by rw [hbo']; exact heap_alloc_new wr _, fun s hs => by rw [List.eq_of_mem_replicate hs, val_nil]; simp, by rw [hr.out]; rfl⟩
          have hbo : w.heap.size ≤ bo := by have := HB.out.size; omega
          have HB2 := Lib.hid (below_up HB.out (below_alloc wr (.cells (strs (List.replicate (zs.length + 1) [])).toArray 33)))
          clear hr hp HB hbo'
          go_wp2_with fail
          clear hmk
          go_loopw [11] (fun i W => Hid (Below w.heap.size w W) ∧ ∃ k : Nat, k ≤ ls.length ∧ i = .int .i64 (k : Int) ∧ Hid (RAges W bo d zs ls r k)) (fun i _ => ls.length - (intOf i).toNat)
          case atStart => exact ⟨HB2, 0, Nat.zero_le _, rfl, hA⟩
          case round =>
            clear HB2 hA hlt hlt' hk hk1
            obtain ⟨HB, k, hk, rfl, hA⟩ := hrel
            by_cases hlt : k < ls.length
            · obtain ⟨x, hx⟩ : ∃ x, ls[k]? = some x := ⟨ls[k], List.getElem?_eq_getElem hlt⟩
              obtain ⟨b, off, ha, k0, k1, k2, k3, k4, k5, k6⟩ := (HW.out.below HB.out).addr hx
              subst ha
              by_cases g : d < x.acq
              · obtain ⟨out, ho1, ho2, ho3, ho4⟩ := hA.out
                have hr : Hid (r = ([], 8)) := by show _ = _; rw [ho4, age_none hx g]; rfl
                clear ho1 ho2 ho3 ho4 hx
                go_wp2_with fail
                go_ret2
                rw [hr.out]
                exact ⟨⟨_, _, rfl, .inl rfl⟩, below_up HB.out (below_alloc wr _)⟩
              have hm := HS.out x (List.mem_of_getElem? hx)
              obtain ⟨out, ho1, ho2, ho3, ho4⟩ := hA.out
              have HO : Hid ((∀ s, s ∈ out → s.length ≤ 1000 + 2 * k ∧ (val s).natAbs ≤ k * 10000000000000) ∧ r = agFin (ageAll d zs (addAt out (olds d zs x) x.c) (ls.drop (k + 1)))) := ⟨ho3, by rw [ho4, age_some hx g]⟩
              have KO : Hid (Box wr bo (strs out).toArray 33) := ⟨(Array.getElem?_eq_some_iff.1 ho2).1, ho2⟩
              have HXC : Hid (x.c.length ≤ 13) := hm.2
              have HX := Lib.hid hx
              have HI := Lib.hid (fun z W => Is_any x.acq d z W)
              clear hA hm ho2 ho3 ho4 hx
              obtain ⟨wo, hwo⟩ : ∃ wo, wo = wr := ⟨_, rfl⟩
              subst hwo
              go_wp2_with fail
              go_loopw [12, 13] (fun t i W => Hid (Below wo.heap.size wo W) ∧ ∃ j : Nat, j ≤ zs.length ∧ i = .int .i64 (j : Int) ∧ ∃ n : Nat, t = .int .i64 (n : Int) ∧ n ≤ j ∧ Hid (n = ((zs.take j).filter (fun z => isLong x.acq d z)).length)) (fun _ i _ => zs.length - (intOf i).toNat)
              case atStart => exact ⟨Below.refl _ _, 0, Nat.zero_le _, rfl, 0, rfl, Nat.le_refl _, rfl⟩
              case round =>
                clear k0 k1 k2 k3 k4 k5 k6
                obtain ⟨HB2, j, hj, rfl, n, rfl, hnj, hn⟩ := hrel
                have HB3 := Lib.hid (below_up HB.out HB2.out)
                have hcells := (HW.out.below HB3.out).addr HX.out
                obtain ⟨b', off', ha', k0, k1, k2, k3, k4, k5, k6⟩ := hcells
                injection ha' with ha'
                injection ha' with e1 e2
                subst e1 e2
                clear k0 k1 k3 k4 k6
                by_cases hltj : j < zs.length
                · obtain ⟨z, hz⟩ : ∃ z, zs[j]? = some z := ⟨zs[j], List.getElem?_eq_getElem hltj⟩
                  obtain ⟨b2, o2, ha2, q0⟩ := (HW2.out.below HB3.out).addr hz
                  subst ha2
                  have HN := Lib.hid (filter_len_take (p := fun z => isLong x.acq d z) hz)
                  clear hz k5
                  go_wp2_with fail
                  go_region_held3 (fun W => W.cell? ⟨b, off + k * 7 + 2, none⟩ = some (.int .i64 x.acq) ∧ W.cell? ⟨b2, o2 + j, none⟩ = some (.int .i64 z)) (first | exact ⟨k2, q0⟩ | go_keep)
                    (first | (go_at_call 50; refine (HI.out _ _).mono ?_; rintro e w2 ⟨rfl, rfl⟩))
                  cases hl : isLong x.acq d z
                  · have HN2 : Hid (n = ((zs.take (j + 1)).filter (fun z => isLong x.acq d z)).length) := by show _ = _; rw [HN.out, hn.out]; simp [hl]
                    clear hl
                    go_wp2
                    go_round
                    case rel => exact ⟨below_drewN HB2.out _, j + 1, by omega, by go_num, n, rfl, by omega, HN2⟩
                    case measure => simp [intOf]; omega
                  · have HN2 : Hid (n + 1 = ((zs.take (j + 1)).filter (fun z => isLong x.acq d z)).length) := by show _ = _; rw [HN.out, hn.out]; simp [hl]
                    clear hl
                    go_wp2
                    go_round
                    case rel => exact ⟨below_drewN HB2.out _, j + 1, by omega, by go_num, n + 1, by go_num, by omega, HN2⟩
                    case measure => simp [intOf]; omega
                · obtain rfl : j = zs.length := by omega
                  have HQ : Hid (olds d zs x = n) := by show _ = _; unfold olds; rw [hn.out, List.take_length]
                  have KO := Lib.hid (KO.out.below HB2.out)
                  have hi1 : n < zs.length + 1 := by omega
                  have hi2 : (n : Int) < (zs.length : Int) + 1 := by omega
                  have q1 := strs_cell (n := n) KO.out.2 (by omega)
                  have hsm : out.getD n [] ∈ out := by rw [List.getD_eq_getElem?_getD, List.getElem?_eq_getElem (show n < out.length by omega)]; simp
                  have hsb := HO.out.1 _ hsm
                  have hxv : Hid ((val x.c).natAbs < 10000000000000) := Nat.lt_of_lt_of_le (val_abs x.c) (Nat.pow_le_pow_right (n := 10) (by decide) HXC.out)
                  have hk12 : k * 10000000000000 ≤ 120000000000000 := by omega
                  have HA := Lib.hid (fun W => RAdd_any (out.getD n []) x.c W (by omega) (by have := HXC.out; omega) (by omega) (by have := hxv.out; omega))
                  have HSB := Lib.hid hsb
                  clear hsb hk12 hj hnj hltj
                  generalize hs : out.getD n [] = s at *
                  have k5' : wr.cell? ⟨b, off + k * 7 + 5, none⟩ = some (.string ⟨x.c.toArray⟩) := k5
                  clear k2 k5
                  go_wp2_with fail
                  go_region_with (go_at_call 51; refine (HA.out _).mono ?_; rintro e w5 ⟨rfl, hb5⟩; subst hb5; have f5 := frozen_at KO.out.2 n)
                  all_goals
                    have HB6 := Lib.hid (HB3.out.setCell (p := ⟨bo, n, none⟩) hbo (.string ⟨(canon (val s + val x.c)).toArray⟩))
                    have HA6 : Hid (RAges (wr.setCell ⟨bo, n, none⟩ (.string ⟨(canon (val s + val x.c)).toArray⟩)) bo d zs ls r (k + 1)) := by
                      refine ⟨addAt out n x.c, ?_, ?_, ?_, ?_⟩
                      · unfold addAt; simp [ho1]
                      · unfold addAt; rw [hs]; exact strs_set _ KO.out.2
                      · intro u hu
                        unfold addAt at hu
                        rw [hs] at hu
                        rcases List.mem_or_eq_of_mem_set hu with h | h
                        · have := HO.out.1 u h; omega
                        · rw [h, val_canon]
                          have h1 := HSB.out
                          have h2 := HXC.out
                          have h3 := hxv.out
                          have := add_len (l := s) (m := x.c) (K := 1000 + 2 * k) h1.1 (by omega)
                          omega
                      · rw [← HQ.out]; exact HO.out.2
                    clear f5 HO HA hs q1 hsm HSB KO
                    go_wp2
                    go_round
                    case rel => exact ⟨below_drewN HB6.out _, k + 1, by omega, by go_num, HA6.out⟩
                    case measure => simp [intOf]; omega
            · obtain rfl : k = ls.length := by omega
              obtain ⟨out, ho1, ho2, ho3, ho4⟩ := hA.out
              have hr : Hid (r = (out, 0)) := by show _ = _; rw [ho4]; simp [ageAll, agFin]
              have hR : Hid (Row wr (some ⟨bo, 0, none⟩) (strs out)) := row_of_heap (q := []) (by simpa using ho2)
              clear ho2 ho3 ho4
              go_wp2_with fail
              go_ret2
              rw [hr.out]
              exact ⟨⟨_, _, by rw [← ho1]; rfl, hR.out⟩, HB.out⟩
end Go.Proofs.YthlpfefckhdpiaaGreatDoor
