/- disposal.Total: what it returns. -/
import Derived.Test.YthlpfefckhdpiaaGreatDoorSums
namespace Go.Proofs.YthlpfefckhdpiaaGreatDoor
open Go.RowKit Num Dt
attribute [local go_sem] str_append str_extract str_size setCell_drewN

set_option maxHeartbeats 4000000 in
set_option maxRecDepth 100000 in
theorem total_ok (gs : List GainP) (a : Option Addr) (c : Nat) (w : World) (hE : Env w) (hn : gs.length ≤ 1000) (hw : Gains w a gs) (hs : ∀ x, x ∈ gs → x.small) (hbad : gs.any GainP.bad = false) :
    Calls Tryz.prog 30 #[.slice a gs.length c] w fun e w' => e = .returned (.tuple #[.string ⟨(canon (sumOf GainP.p gs)).toArray⟩, .string ⟨(canon (sumOf GainP.c gs)).toArray⟩, .string ⟨(canon (sumOf GainP.df gs)).toArray⟩, .int .i64 0]) ∧ Below w.heap.size w w' := by
  have H1 := Lib.hid (containsFunc_gain 68 GainP.bad (fun args w => MuLone.run_callFunc_enter Tryz.func68 (by kernel_rfl) rfl args w) gs a c w hE (fun x W hx hW => wrong_any x W hW (hs x hx)) hw (by omega))
  rw [hbad] at H1
  have HW := Lib.hid hw
  have HE := Lib.hid hE
  have HS := Lib.hid hs
  clear hw hE hs hbad
  go_enter Tryz.func30, Tryz.ntmps30
  go_wp2_with fail
  refine H1.out.mono ?_
  rintro e w1 ⟨rfl, hb⟩
  have HB := Lib.hid hb
  clear hb H1
  go_wp2_with fail
  go_loopw [6, 7, 8, 15] (fun t1 t2 t3 i W => Hid (Below w.heap.size w W) ∧ ∃ k : Nat, k ≤ gs.length ∧ i = .int .i64 (k : Int) ∧ ∃ sa sb sc : List UInt8, t1 = .string ⟨sa.toArray⟩ ∧ t2 = .string ⟨sb.toArray⟩ ∧ t3 = .string ⟨sc.toArray⟩ ∧ Hid (sa = canon (sumOf GainP.p (gs.take k)) ∧ sb = canon (sumOf GainP.c (gs.take k)) ∧ sc = canon (sumOf GainP.df (gs.take k))) ∧ sa.length ≤ 2000 + 2 * k ∧ sb.length ≤ 2000 + 2 * k ∧ sc.length ≤ 2000 + 2 * k) (fun _ _ _ i _ => gs.length - (intOf i).toNat)
  case atStart => exact ⟨HB, 0, Nat.zero_le _, rfl, [], [], [], rfl, rfl, rfl, ⟨rfl, rfl, rfl⟩, by simp, by simp, by simp⟩
  case round =>
    clear HB
    obtain ⟨hB, k, hk, rfl, sa, sb, sc, rfl, rfl, rfl, hst, hl1, hl2, hl3⟩ := hrel
    by_cases hlt : k < gs.length
    · obtain ⟨x, hx⟩ : ∃ x, gs[k]? = some x := ⟨gs[k], List.getElem?_eq_getElem hlt⟩
      obtain ⟨b, off, ha, k0, k1, k2, k3, k4, k5, k6, k7, k8, k9⟩ := (HW.out.below hB.out).addr hx
      subst ha
      obtain ⟨_, _, _, _, f5, f6, f7, _⟩ := HS.out x (List.mem_of_getElem? hx)
      have Ha := Lib.hid (fun W hW => Add_any sa x.p W hW (by omega) (by omega))
      have Hb := Lib.hid (fun W hW => Add_any sb x.c W hW (by omega) (by omega))
      have Hc := Lib.hid (fun W hW => Add_any sc x.df W hW (by omega) (by omega))
      have ha6 := add_len (l := sa) (m := x.p) (K := 2000 + 2 * k) (by omega) (by omega)
      have hb6 := add_len (l := sb) (m := x.c) (K := 2000 + 2 * k) (by omega) (by omega)
      have hc6 := add_len (l := sc) (m := x.df) (K := 2000 + 2 * k) (by omega) (by omega)
      have HS2 : Hid (canon (val sa + val x.p) = canon (sumOf GainP.p (gs.take (k + 1))) ∧ canon (val sb + val x.c) = canon (sumOf GainP.c (gs.take (k + 1))) ∧ canon (val sc + val x.df) = canon (sumOf GainP.df (gs.take (k + 1)))) := by
        show _ ∧ _
        rw [hst.out.1, hst.out.2.1, hst.out.2.2, val_canon, val_canon, val_canon, sumOf_take hx, sumOf_take hx, sumOf_take hx]
        exact ⟨rfl, rfl, rfl⟩
      have HB := Lib.hid (below_up hB.out (below_alloc wr (.cells #[.string ⟨x.cause.toArray⟩, .string ⟨x.lot.toArray⟩, .string ⟨x.ins.toArray⟩, .int .i64 x.acq, .int .i64 x.cls, .string ⟨x.q.toArray⟩, .string ⟨x.p.toArray⟩, .string ⟨x.c.toArray⟩, .string ⟨x.df.toArray⟩, .string ⟨x.rp.toArray⟩] 51)))
      have KX := Lib.hid (Box.new0 wr #[.string ⟨x.cause.toArray⟩, .string ⟨x.lot.toArray⟩, .string ⟨x.ins.toArray⟩, .int .i64 x.acq, .int .i64 x.cls, .string ⟨x.q.toArray⟩, .string ⟨x.p.toArray⟩, .string ⟨x.c.toArray⟩, .string ⟨x.df.toArray⟩, .string ⟨x.rp.toArray⟩] 51)
      clear hx f5 f6 f7 hst
      go_wp2_with fail
      generalize wr.alloc _ = w4 at *
      clear k0 k1 k2 k3 k4 k5 k6 k7 k8 k9
      generalize canon (val sa + val x.p) = na at *
      generalize canon (val sb + val x.c) = nb at *
      generalize canon (val sc + val x.df) = nc at *
      have HBc : Below w.heap.size w w4.drew := below_drewN HB.out 1
      have KBc : Box w4.drew wr.heap.size #[.string ⟨x.cause.toArray⟩, .string ⟨x.lot.toArray⟩, .string ⟨x.ins.toArray⟩, .int .i64 x.acq, .int .i64 x.cls, .string ⟨x.q.toArray⟩, .string ⟨x.p.toArray⟩, .string ⟨x.c.toArray⟩, .string ⟨x.df.toArray⟩, .string ⟨x.rp.toArray⟩] 51 := KX.out.below (below_drewN (Below.refl _ _) 1)
      refine wp_region_held_drew (S := fun W => W.cell? ⟨wr.heap.size, 6, none⟩ = some (.string ⟨x.p.toArray⟩) ∧ W.cell? ⟨wr.heap.size, 7, none⟩ = some (.string ⟨x.c.toArray⟩) ∧ W.cell? ⟨wr.heap.size, 8, none⟩ = some (.string ⟨x.df.toArray⟩)) (by kernel_rfl) ?hS1 (fun hHeld => ?hR1)
      case hS1 => exact ⟨KBc.cell 6, KBc.cell 7, KBc.cell 8⟩
      refine take_op (i := 0) (some 19) (v := ?v2) rfl rfl (by kernel_rfl) (by kernel_rfl) (by kernel_rfl) (fun _ _ _ h => h) (Or.inl ⟨by rfl, ?hy2⟩) (by assumption) ?hR2
      case hy2 => (intro w hSw; (try dsimp only at hSw); go_simp; try rfl)
      simp only [Act.put, List.setIfInBounds_toArray, List.set_cons_zero, List.set_cons_succ]
      refine take_op (i := 1) (some 20) (v := ?v3) rfl rfl (by kernel_rfl) (by kernel_rfl) (by kernel_rfl) (fun _ _ _ h => h) (Or.inl ⟨by rfl, ?hy3⟩) (by assumption) ?hR3
      case hy3 => (intro w hSw; (try dsimp only at hSw); go_simp; try rfl)
      simp only [Act.put, List.setIfInBounds_toArray, List.set_cons_zero, List.set_cons_succ]
      refine take_op (i := 2) (some 21) (v := ?v4) rfl rfl (by kernel_rfl) (by kernel_rfl) (by kernel_rfl) (fun _ _ _ h => h) (Or.inl ⟨by rfl, ?hy4⟩) (by assumption) ?hR4
      case hy4 => (intro w hSw; (try dsimp only at hSw); go_simp; try rfl)
      simp only [Act.put, List.setIfInBounds_toArray, List.set_cons_zero, List.set_cons_succ]
      refine take_op (i := 4) (some 23) (v := ?v5) rfl rfl (by kernel_rfl) (by kernel_rfl) (by kernel_rfl) (fun _ _ _ h => h) (Or.inl ⟨by rfl, ?hy5⟩) (by assumption) ?hR5
      case hy5 => (intro w hSw; (try dsimp only at hSw); go_simp; try rfl)
      simp only [Act.put, List.setIfInBounds_toArray, List.set_cons_zero, List.set_cons_succ]
      refine take_op (i := 5) (some 24) (v := ?v6) rfl rfl (by kernel_rfl) (by kernel_rfl) (by kernel_rfl) (fun _ _ _ h => h) (Or.inl ⟨by rfl, ?hy6⟩) (by assumption) ?hR6
      case hy6 => (intro w hSw; (try dsimp only at hSw); go_simp; try rfl)
      simp only [Act.put, List.setIfInBounds_toArray, List.set_cons_zero, List.set_cons_succ]
      refine take_op (i := 6) (some 25) (v := ?v7) rfl rfl (by kernel_rfl) (by kernel_rfl) (by kernel_rfl) (fun _ _ _ h => h) (Or.inl ⟨by rfl, ?hy7⟩) (by assumption) ?hR7
      case hy7 => (intro w hSw; (try dsimp only at hSw); go_simp; try rfl)
      simp only [Act.put, List.setIfInBounds_toArray, List.set_cons_zero, List.set_cons_succ]
      refine take_op (i := 8) (some 27) (v := ?v8) rfl rfl (by kernel_rfl) (by kernel_rfl) (by kernel_rfl) (fun _ _ _ h => h) (Or.inl ⟨by rfl, ?hy8⟩) (by assumption) ?hR8
      case hy8 => (intro w hSw; (try dsimp only at hSw); go_simp; try rfl)
      simp only [Act.put, List.setIfInBounds_toArray, List.set_cons_zero, List.set_cons_succ]
      refine take_op (i := 9) (some 28) (v := ?v9) rfl rfl (by kernel_rfl) (by kernel_rfl) (by kernel_rfl) (fun _ _ _ h => h) (Or.inl ⟨by rfl, ?hy9⟩) (by assumption) ?hR9
      case hy9 => (intro w hSw; (try dsimp only at hSw); go_simp; try rfl)
      simp only [Act.put, List.setIfInBounds_toArray, List.set_cons_zero, List.set_cons_succ]
      refine take_op (i := 10) (some 29) (v := ?v10) rfl rfl (by kernel_rfl) (by kernel_rfl) (by kernel_rfl) (fun _ _ _ h => h) (Or.inl ⟨by rfl, ?hy10⟩) (by assumption) ?hR10
      case hy10 => (intro w hSw; (try dsimp only at hSw); go_simp; try rfl)
      simp only [Act.put, List.setIfInBounds_toArray, List.set_cons_zero, List.set_cons_succ]
      refine wpAnyH_ready (rs := [3]) (by kernel_rfl) (by simp) ?_
      refine AllReadyH.cons (o := _) rfl (fun K hK => ?hC11) AllReadyH.nil
      rw [if_pos (by rfl)]
      go_simp
      go_at_call 15
      refine (Ha.out _ (HE.out.below HBc)).mono ?_
      rintro e wn ⟨rfl, hbn⟩
      replace HBc := below_up HBc hbn
      replace KBc := KBc.below hbn
      clear hbn
      go_wp2_with fail
      refine hK.out _ _ ?hS11 (fun hHeld => ?hR11)
      case hS11 => exact ⟨KBc.cell 6, KBc.cell 7, KBc.cell 8⟩
      try simp only [Act.put, List.setIfInBounds_toArray, List.set_cons_zero, List.set_cons_succ]
      refine wpAnyH_ready (rs := [7]) (by kernel_rfl) (by simp) ?_
      refine AllReadyH.cons (o := _) rfl (fun K hK => ?hC12) AllReadyH.nil
      rw [if_pos (by rfl)]
      go_simp
      go_at_call 15
      refine (Hb.out _ (HE.out.below HBc)).mono ?_
      rintro e wn ⟨rfl, hbn⟩
      replace HBc := below_up HBc hbn
      replace KBc := KBc.below hbn
      clear hbn
      go_wp2_with fail
      refine hK.out _ _ ?hS12 (fun hHeld => ?hR12)
      case hS12 => exact ⟨KBc.cell 6, KBc.cell 7, KBc.cell 8⟩
      try simp only [Act.put, List.setIfInBounds_toArray, List.set_cons_zero, List.set_cons_succ]
      refine wpAnyH_ready (rs := [11]) (by kernel_rfl) (by simp) ?_
      refine AllReadyH.cons (o := _) rfl (fun K hK => ?hC13) AllReadyH.nil
      rw [if_pos (by rfl)]
      go_simp
      go_at_call 15
      refine (Hc.out _ (HE.out.below HBc)).mono ?_
      rintro e wn ⟨rfl, hbn⟩
      replace HBc := below_up HBc hbn
      replace KBc := KBc.below hbn
      clear hbn
      go_wp2_with fail
      refine hK.out _ _ ?hS13 (fun hHeld => ?hR13)
      case hS13 => exact ⟨KBc.cell 6, KBc.cell 7, KBc.cell 8⟩
      try simp only [Act.put, List.setIfInBounds_toArray, List.set_cons_zero, List.set_cons_succ]
      refine take_op (i := 12) (some 6) (v := ?v14) rfl rfl (by kernel_rfl) (by kernel_rfl) (by kernel_rfl) (fun _ _ _ h => h) (Or.inl ⟨by rfl, ?hy14⟩) (by assumption) ?hR14
      case hy14 => (intro w hSw; (try dsimp only at hSw); go_simp; try rfl)
      simp only [Act.put, List.setIfInBounds_toArray, List.set_cons_zero, List.set_cons_succ]
      refine take_op (i := 13) (some 7) (v := ?v15) rfl rfl (by kernel_rfl) (by kernel_rfl) (by kernel_rfl) (fun _ _ _ h => h) (Or.inl ⟨by rfl, ?hy15⟩) (by assumption) ?hR15
      case hy15 => (intro w hSw; (try dsimp only at hSw); go_simp; try rfl)
      simp only [Act.put, List.setIfInBounds_toArray, List.set_cons_zero, List.set_cons_succ]
      refine take_op (i := 14) (some 8) (v := ?v16) rfl rfl (by kernel_rfl) (by kernel_rfl) (by kernel_rfl) (fun _ _ _ h => h) (Or.inl ⟨by rfl, ?hy16⟩) (by assumption) ?hR16
      case hy16 => (intro w hSw; (try dsimp only at hSw); go_simp; try rfl)
      simp only [Act.put, List.setIfInBounds_toArray, List.set_cons_zero, List.set_cons_succ]
      refine wpAnyH_done (by kernel_rfl) ?_ _
      all_goals
        have HBc := Lib.hid HBc
        go_wp2
        go_round
        case rel => exact ⟨HBc, k + 1, by omega, by go_num, na, nb, nc, rfl, rfl, rfl, HS2, by omega, by omega, by omega⟩
        case measure => simp [intOf]; omega
    · obtain rfl : k = gs.length := by omega
      have hst : Hid (sa = canon (sumOf GainP.p gs) ∧ sb = canon (sumOf GainP.c gs) ∧ sc = canon (sumOf GainP.df gs)) := by have := hst.out; rw [List.take_length] at this; exact this
      go_wp2
      refine bodyPost_ret (results_tmp4 rfl _ _ _) rfl ?_
      exact ⟨by rw [← hst.out.1, ← hst.out.2.1, ← hst.out.2.2]; rfl, hB.out⟩
end Go.Proofs.YthlpfefckhdpiaaGreatDoor
