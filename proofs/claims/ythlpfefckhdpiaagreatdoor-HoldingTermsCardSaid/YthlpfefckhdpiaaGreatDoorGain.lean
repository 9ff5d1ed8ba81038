/- disposal.Check: what it returns of a gain. -/
import Derived.Test.YthlpfefckhdpiaaGreatDoorGainP
import Derived.Test.YthlpfefckhdpiaaGreatDoorRegion
set_option linter.unusedSimpArgs false
namespace Go.Proofs.YthlpfefckhdpiaaGreatDoor
open Go.RowKit Num Dt
attribute [local go_sem] str_append str_extract str_size setCell_drewN

theorem GainP.err_mk (cause lot ins : List UInt8) (acq cls : Int) (q p c df rp : List UInt8) : GainP.err ⟨cause, lot, ins, acq, cls, q, p, c, df, rp⟩ = (if !(isName cause && isId lot && isName ins) then 23
  else if !(vday acq && vday cls) then 13
  else if cls < acq then 8
  else if !([q, p, c, df, rp].all isInt) then 1
  else if val q < 0 ∨ val c < 0 ∨ val rp < 0 ∨ val q < val rp then 2
  else if val df < 0 ∨ (GainP.mk cause lot ins acq cls q p c df rp).loss < val df ∨ (rp = [] ∧ df ≠ []) then 2
  else 0) := by
  unfold GainP.err
  simp only [List.all_cons, List.all_nil, Bool.and_true, Bool.and_assoc]
theorem all_take_true {α : Type} {p : α → Bool} {l : List α} {k : Nat} {x : α} (hx : l[k]? = some x) (h : (l.take k).all p = true) (hp : p x = true) : (l.take (k + 1)).all p = true := by
  rw [List.take_add_one, hx]; simp [List.all_append, h, hp]
theorem all_miss {α : Type} {p : α → Bool} {l : List α} {k : Nat} {x : α} (hx : l[k]? = some x) (hp : p x = false) : l.all p = false := by
  rw [List.all_eq_false]; exact ⟨x, List.mem_of_getElem? hx, by simp [hp]⟩
theorem cmpI_gt (a b : Int) : 0 < cmpI a b ↔ b < a := by
  unfold cmpI; split
  · omega
  · split <;> omega
set_option maxHeartbeats 4000000 in
set_option maxRecDepth 100000 in
theorem gainCheck_any (x : GainP) (w : World) (hE : Env w) (hs : x.small) :
    Calls Tryz.prog 56 #[x.v] w fun e w' => e = .returned (.int .i64 x.err) ∧ Below w.heap.size w w' := by
  obtain ⟨cause, lot, ins, acq, cls, q, p, c, df, rp⟩ := x
  have hr := Lib.hid (GainP.err_mk cause lot ins acq cls q p c df rp)
  obtain ⟨s1, s2, s3, s4, s5, s6, s7, s8⟩ := hs
  simp only at s1 s2 s3 s4 s5 s6 s7 s8
  have HE := Lib.hid hE
  have hlen : Hid ((canon (GainP.mk cause lot ins acq cls q p c df rp).loss).length ≤ 1002) := by
    show _ ≤ _
    unfold GainP.loss
    split
    · rw [canon_zero]; simp
    · exact sub_len (l := c) (m := p) (K := 1000) (by omega) (by omega)
  have H1 := Lib.hid (fun W => Name_any cause W (by omega))
  have H2 := Lib.hid (fun W hW => isLot_any lot W hW (by omega))
  have H3 := Lib.hid (fun W => Name_any ins W (by omega))
  have H4 := Lib.hid (fun b W k0 k1 => gvalid_any acq cls b W k0 k1)
  have H5 := Lib.hid (fun (s : List UInt8) W (h : s.length ≤ 1000) => Check_bool s W (by omega))
  have H6 := Lib.hid (fun W => negative_any q W (by omega))
  have H7 := Lib.hid (fun W => negative_any c W (by omega))
  have H8 := Lib.hid (fun W => negative_any rp W (by omega))
  have H9 := Lib.hid (fun W => Compare_any rp q W (by omega) (by omega))
  have H10 := Lib.hid (fun W => negative_any df W (by omega))
  have H11 := Lib.hid (fun W hW => loss_any ⟨cause, lot, ins, acq, cls, q, p, c, df, rp⟩ W hW (by simp; omega) (by simp; omega))
  have H12 := Lib.hid (fun W => Compare_any df (canon (GainP.mk cause lot ins acq cls q p c df rp).loss) W (by omega) (by have := hlen.out; omega))
  rw [val_canon] at H12
  have KB := Lib.hid (Box.new0 w #[.string ⟨cause.toArray⟩, .string ⟨lot.toArray⟩, .string ⟨ins.toArray⟩, .int .i64 acq, .int .i64 cls, .string ⟨q.toArray⟩, .string ⟨p.toArray⟩, .string ⟨c.toArray⟩, .string ⟨df.toArray⟩, .string ⟨rp.toArray⟩] 51)
  have HB := Lib.hid (below_alloc w (.cells #[.string ⟨cause.toArray⟩, .string ⟨lot.toArray⟩, .string ⟨ins.toArray⟩, .int .i64 acq, .int .i64 cls, .string ⟨q.toArray⟩, .string ⟨p.toArray⟩, .string ⟨c.toArray⟩, .string ⟨df.toArray⟩, .string ⟨rp.toArray⟩] 51))
  have hnums : Hid (∀ s, s ∈ [q, p, c, df, rp] → s.length ≤ 1000) := by
    intro s hs
    simp at hs
    rcases hs with rfl | rfl | rfl | rfl | rfl <;> omega
  simp only [GainP.v, GainP.cs] at *
  clear hE
  generalize GainP.err _ = r at *
  generalize (GainP.mk cause lot ins acq cls q p c df rp).loss = ls at *
  generalize isName cause = b1 at *
  generalize isId lot = b2 at *
  generalize isName ins = b3 at *
  generalize (vday acq && vday cls) = b4 at *
  go_enter Tryz.func56, Tryz.ntmps56
  go_wp2_with fail
  generalize w.alloc _ = w1 at *
  refine (H1.out _).mono ?_
  rintro e w1' ⟨rfl, hb⟩
  have KB := Lib.hid (KB.out.below hb)
  have HB := Lib.hid (below_up HB.out hb)
  clear hb
  have k1 := KB.out.cell 1
  cases b1
  · go_wp2
    go_ret
    exact ⟨ret_int (by rw [hr.out]; simp), HB.out⟩
  go_wp2_with fail
  refine (H2.out _ (HE.out.below HB.out)).mono ?_
  rintro e w2 ⟨rfl, hb⟩
  have KB := Lib.hid (KB.out.below hb)
  have HB := Lib.hid (below_up HB.out hb)
  clear hb k1
  cases b2
  · go_wp2
    go_ret
    exact ⟨ret_int (by rw [hr.out]; simp), HB.out⟩
  have k2 := KB.out.cell 2
  go_wp2_with fail
  refine (H3.out _).mono ?_
  rintro e w2' ⟨rfl, hb⟩
  have KB := Lib.hid (KB.out.below hb)
  have HB := Lib.hid (below_up HB.out hb)
  clear hb k2
  cases b3
  · go_wp2
    go_ret
    exact ⟨ret_int (by rw [hr.out]; simp), HB.out⟩
  have k3 := KB.out.cell 3
  have k4 := KB.out.cell 4
  go_wp2_with fail
  have KD := Lib.hid (Box.new0 w2' #[.int .i64 acq, .int .i64 cls] 23)
  have KB := Lib.hid (KB.out.below (below_alloc w2' (.cells #[.int .i64 acq, .int .i64 cls] 23)))
  have HB := Lib.hid (below_up HB.out (below_alloc w2' (.cells #[.int .i64 acq, .int .i64 cls] 23)))
  generalize w2'.alloc _ = w3 at *
  refine (H4.out _ _ (KD.out.cell 0) (KD.out.cell 1)).mono ?_
  rintro e w4 ⟨rfl, rfl⟩
  clear KD k3 k4
  cases b4
  · go_wp2
    go_ret
    exact ⟨ret_int (by rw [hr.out]; simp), HB.out⟩
  have k3 := KB.out.cell 3
  have k4 := KB.out.cell 4
  have k5 := KB.out.cell 5
  have k6 := KB.out.cell 6
  have k7 := KB.out.cell 7
  have k8 := KB.out.cell 8
  have k9 := KB.out.cell 9
  by_cases g1 : cls < acq
  · go_wp2
    go_ret
    exact ⟨ret_int (by rw [hr.out]; simp [g1]), HB.out⟩
  have hr : Hid (r = if !([q, p, c, df, rp].all isInt) then 1
    else if val q < 0 ∨ val c < 0 ∨ val rp < 0 ∨ val q < val rp then 2
    else if val df < 0 ∨ ls < val df ∨ (rp = [] ∧ df ≠ []) then 2
    else 0) := by show _ = _; rw [hr.out]; simp [g1]
  go_wp2_with fail
  have KN := Lib.hid (Box.new0 w3 #[.string ⟨q.toArray⟩, .string ⟨p.toArray⟩, .string ⟨c.toArray⟩, .string ⟨df.toArray⟩, .string ⟨rp.toArray⟩] 33)
  have KB := Lib.hid (KB.out.below (below_alloc w3 (.cells #[.string ⟨q.toArray⟩, .string ⟨p.toArray⟩, .string ⟨c.toArray⟩, .string ⟨df.toArray⟩, .string ⟨rp.toArray⟩] 33)))
  have HB := Lib.hid (below_up HB.out (below_alloc w3 (.cells #[.string ⟨q.toArray⟩, .string ⟨p.toArray⟩, .string ⟨c.toArray⟩, .string ⟨df.toArray⟩, .string ⟨rp.toArray⟩] 33)))
  obtain ⟨bn, hbn⟩ : ∃ bn, bn = w3.heap.size := ⟨_, rfl⟩
  rw [← hbn] at KN ⊢
  clear k3 k4 k5 k6 k7 k8 k9 hbn H1 H2 H3 H4
  go_loopw [45] (fun i W => Hid (Below w.heap.size w W) ∧ Hid (Box W w.heap.size #[.string ⟨cause.toArray⟩, .string ⟨lot.toArray⟩, .string ⟨ins.toArray⟩, .int .i64 acq, .int .i64 cls, .string ⟨q.toArray⟩, .string ⟨p.toArray⟩, .string ⟨c.toArray⟩, .string ⟨df.toArray⟩, .string ⟨rp.toArray⟩] 51) ∧ Hid (Box W bn #[.string ⟨q.toArray⟩, .string ⟨p.toArray⟩, .string ⟨c.toArray⟩, .string ⟨df.toArray⟩, .string ⟨rp.toArray⟩] 33) ∧ ∃ k : Nat, k ≤ 5 ∧ i = .int .i64 (k : Int) ∧ Hid (([q, p, c, df, rp].take k).all isInt = true)) (fun i _ => 5 - (intOf i).toNat)
  case atStart => exact ⟨HB, KB, KN, 0, Nat.zero_le _, rfl, rfl⟩
  case round =>
    clear HB KB KN
    obtain ⟨HB, KB, KN, k, hk, rfl, hp⟩ := hrel
    by_cases hlt : k < 5
    · obtain ⟨s, hs⟩ : ∃ s, [q, p, c, df, rp][k]? = some s := ⟨[q, p, c, df, rp][k]'(by simpa using hlt), List.getElem?_eq_getElem _⟩
      have hsl := hnums.out s (List.mem_of_getElem? hs)
      have k0 : wr.cell? ⟨bn, k, none⟩ = some (.string ⟨s.toArray⟩) := by
        rw [KN.out.cell k]
        match k, hlt, hs with
        | 0, _, hs => simp at hs; subst hs; rfl
        | 1, _, hs => simp at hs; subst hs; rfl
        | 2, _, hs => simp at hs; subst hs; rfl
        | 3, _, hs => simp at hs; subst hs; rfl
        | 4, _, hs => simp at hs; subst hs; rfl
      have HX := Lib.hid (fun h => all_take_true (p := isInt) hs hp.out h)
      have HY := Lib.hid (fun h => all_miss (p := isInt) hs h)
      have H5 := Lib.hid (fun W => H5.out s W hsl)
      clear hs
      go_wp2_with fail
      refine (H5.out _).mono ?_
      rintro e w4 ⟨rfl, hb⟩
      have KB := Lib.hid (KB.out.below hb)
      have HB := Lib.hid (below_up HB.out hb)
      have KN := Lib.hid (KN.out.below hb)
      clear hb k0
      cases hi : isInt s
      · have hr : Hid (r = 1) := by show _ = _; rw [hr.out, HY.out hi]; rfl
        simp only [Bool.false_eq_true, if_false]
        go_wp2
        go_ret
        exact ⟨ret_int hr.out.symm, HB.out⟩
      · simp only [if_true]
        go_wp2
        go_round
        case rel => exact ⟨HB, KB, KN, k + 1, by omega, by go_num, HX.out hi⟩
        case measure => simp [intOf]; omega
    · obtain rfl : k = 5 := by omega
      have hr : Hid (r = if val q < 0 ∨ val c < 0 ∨ val rp < 0 ∨ val q < val rp then 2
        else if val df < 0 ∨ ls < val df ∨ (rp = [] ∧ df ≠ []) then 2
        else 0) := by show _ = _; rw [hr.out, show [q, p, c, df, rp].all isInt = true from hp.out]; rfl
      clear hp H5 KN
      have k5 := KB.out.cell 5
      go_wp2_with fail
      refine (H6.out _).mono ?_
      rintro e w5 ⟨rfl, hb⟩
      have KB := Lib.hid (KB.out.below hb)
      have HB := Lib.hid (below_up HB.out hb)
      have k5 := KB.out.cell 5
      have k7 := KB.out.cell 7
      have k8 := KB.out.cell 8
      have k9 := KB.out.cell 9
      clear hb
      by_cases n1 : val q < 0
      · rw [decide_eq_true n1]
        go_wp2
        go_ret
        exact ⟨ret_int (by rw [hr.out, if_pos (by simp [n1])]), HB.out⟩
      rw [decide_eq_false n1]
      go_wp2_with fail
      refine (H7.out _).mono ?_
      rintro e w5 ⟨rfl, hb⟩
      have KB := Lib.hid (KB.out.below hb)
      have HB := Lib.hid (below_up HB.out hb)
      have k5 := KB.out.cell 5
      have k7 := KB.out.cell 7
      have k8 := KB.out.cell 8
      have k9 := KB.out.cell 9
      clear hb
      by_cases n2 : val c < 0
      · rw [decide_eq_true n2]
        go_wp2
        go_ret
        exact ⟨ret_int (by rw [hr.out, if_pos (by simp [n2])]), HB.out⟩
      rw [decide_eq_false n2]
      go_wp2_with fail
      refine (H8.out _).mono ?_
      rintro e w5 ⟨rfl, hb⟩
      have KB := Lib.hid (KB.out.below hb)
      have HB := Lib.hid (below_up HB.out hb)
      have k5 := KB.out.cell 5
      have k7 := KB.out.cell 7
      have k8 := KB.out.cell 8
      have k9 := KB.out.cell 9
      clear hb
      by_cases n3 : val rp < 0
      · rw [decide_eq_true n3]
        go_wp2
        go_ret
        exact ⟨ret_int (by rw [hr.out, if_pos (by simp [n3])]), HB.out⟩
      rw [decide_eq_false n3]
      go_wp2_with fail
      refine (H9.out _).mono ?_
      rintro e w5 ⟨rfl, hb⟩
      have KB := Lib.hid (KB.out.below hb)
      have HB := Lib.hid (below_up HB.out hb)
      have hc9 := Lib.hid (cmpI_gt (val rp) (val q))
      clear hb
      clear k5 k7 k8 k9
      by_cases n4 : val q < val rp
      · have t4 := hc9.out.2 n4
        generalize cmpI (val rp) (val q) = z at *
        go_wp2
        go_ret
        exact ⟨ret_int (by rw [hr.out, if_pos (by simp [n4])]), HB.out⟩
      have t4 := mt hc9.out.1 n4
      generalize cmpI (val rp) (val q) = z at *
      have hr : Hid (r = if val df < 0 ∨ ls < val df ∨ (rp = [] ∧ df ≠ []) then 2 else 0) := by show _ = _; rw [hr.out, if_neg (by simp [n1, n2, n3, n4])]
      clear n1 n2 n3 n4 hc9
      have hc12 := Lib.hid (cmpI_gt (val df) ls)
      by_cases m1 : val df < 0
      · rw [decide_eq_true m1] at H10
        have hr : Hid (r = 2) := by show _ = _; rw [hr.out, if_pos (.inl m1)]
        go_wp2_with fail
        refine wp_region_held_drew (S := (fun W => W.cell? ⟨w.heap.size, 0, none⟩ = some (.string ⟨cause.toArray⟩) ∧ W.cell? ⟨w.heap.size, 1, none⟩ = some (.string ⟨lot.toArray⟩) ∧ W.cell? ⟨w.heap.size, 2, none⟩ = some (.string ⟨ins.toArray⟩) ∧ W.cell? ⟨w.heap.size, 3, none⟩ = some (.int .i64 acq) ∧ W.cell? ⟨w.heap.size, 4, none⟩ = some (.int .i64 cls) ∧ W.cell? ⟨w.heap.size, 5, none⟩ = some (.string ⟨q.toArray⟩) ∧ W.cell? ⟨w.heap.size, 6, none⟩ = some (.string ⟨p.toArray⟩) ∧ W.cell? ⟨w.heap.size, 7, none⟩ = some (.string ⟨c.toArray⟩) ∧ W.cell? ⟨w.heap.size, 8, none⟩ = some (.string ⟨df.toArray⟩) ∧ W.cell? ⟨w.heap.size, 9, none⟩ = some (.string ⟨rp.toArray⟩))) (by kernel_rfl) ?hS1 (fun hHeld => ?hR1)
        case hS1 => exact ⟨KB.out.cell 0, KB.out.cell 1, KB.out.cell 2, KB.out.cell 3, KB.out.cell 4, KB.out.cell 5, KB.out.cell 6, KB.out.cell 7, KB.out.cell 8, KB.out.cell 9⟩
        refine take_op (i := 0) (some 74) (v := ?v2) rfl rfl (by kernel_rfl) (by kernel_rfl) (by kernel_rfl) (fun _ _ _ h => h) (Or.inl ⟨by rfl, ?hy2⟩) (by assumption) ?hR2
        case hy2 => (intro w hSw; (try dsimp only at hSw); go_simp; try rfl)
        simp only [Act.put, List.setIfInBounds_toArray, List.set_cons_zero, List.set_cons_succ]
        refine take_op (i := 1) (some 75) (v := ?v3) rfl rfl (by kernel_rfl) (by kernel_rfl) (by kernel_rfl) (fun _ _ _ h => h) (Or.inl ⟨by rfl, ?hy3⟩) (by assumption) ?hR3
        case hy3 => (intro w hSw; (try dsimp only at hSw); go_simp; try rfl)
        simp only [Act.put, List.setIfInBounds_toArray, List.set_cons_zero, List.set_cons_succ]
        refine wpAnyH_ready (rs := [2]) (by kernel_rfl) (by simp) ?_
        refine AllReadyH.cons (o := _) rfl (fun K hK => ?hC4) AllReadyH.nil
        rw [if_pos (by rfl)]
        go_simp
        go_at_call 105
        refine (H10.out _).mono ?_
        rintro e w6 ⟨rfl, hb6⟩
        have HB6 := below_up (below_drewN HB.out 1) hb6
        have KB6 := KB.out.below (below_up (below_drewN (Below.refl _ _) 1) hb6)
        go_wp2_with fail
        refine hK.out _ _ ?hS4 (fun hHeld => ?hR4)
        case hS4 => exact ⟨KB6.cell 0, KB6.cell 1, KB6.cell 2, KB6.cell 3, KB6.cell 4, KB6.cell 5, KB6.cell 6, KB6.cell 7, KB6.cell 8, KB6.cell 9⟩
        try simp only [Act.put, List.setIfInBounds_toArray, List.set_cons_zero, List.set_cons_succ]
        refine take_op (i := 3) (some 77) (v := ?v5) rfl rfl (by kernel_rfl) (by kernel_rfl) (by kernel_rfl) (fun _ _ _ h => h) (Or.inl ⟨by rfl, ?hy5⟩) (by assumption) ?hR5
        case hy5 => (intro w hSw; (try dsimp only at hSw); go_simp; try rfl)
        simp only [Act.put, List.setIfInBounds_toArray, List.set_cons_zero, List.set_cons_succ]
        refine take_op (i := 4) (some 78) (v := undef) rfl rfl (by kernel_rfl) (by kernel_rfl) (by kernel_rfl) (fun _ _ _ h => h) (Or.inr ⟨by rfl, rfl⟩) (by assumption) ?_
        simp only [Act.put, List.setIfInBounds_toArray, List.set_cons_zero, List.set_cons_succ]
        refine take_op (i := 5) (some 79) (v := undef) rfl rfl (by kernel_rfl) (by kernel_rfl) (by kernel_rfl) (fun _ _ _ h => h) (Or.inr ⟨by rfl, rfl⟩) (by assumption) ?_
        simp only [Act.put, List.setIfInBounds_toArray, List.set_cons_zero, List.set_cons_succ]
        refine take_op (i := 6) (some 80) (v := undef) rfl rfl (by kernel_rfl) (by kernel_rfl) (by kernel_rfl) (fun _ _ _ h => h) (Or.inr ⟨by rfl, rfl⟩) (by assumption) ?_
        simp only [Act.put, List.setIfInBounds_toArray, List.set_cons_zero, List.set_cons_succ]
        refine take_op (i := 7) (some 81) (v := undef) rfl rfl (by kernel_rfl) (by kernel_rfl) (by kernel_rfl) (fun _ _ _ h => h) (Or.inr ⟨by rfl, rfl⟩) (by assumption) ?_
        simp only [Act.put, List.setIfInBounds_toArray, List.set_cons_zero, List.set_cons_succ]
        refine take_op (i := 8) (some 82) (v := undef) rfl rfl (by kernel_rfl) (by kernel_rfl) (by kernel_rfl) (fun _ _ _ h => h) (Or.inr ⟨by rfl, rfl⟩) (by assumption) ?_
        simp only [Act.put, List.setIfInBounds_toArray, List.set_cons_zero, List.set_cons_succ]
        refine take_op (i := 9) (some 83) (v := undef) rfl rfl (by kernel_rfl) (by kernel_rfl) (by kernel_rfl) (fun _ _ _ h => h) (Or.inr ⟨by rfl, rfl⟩) (by assumption) ?_
        simp only [Act.put, List.setIfInBounds_toArray, List.set_cons_zero, List.set_cons_succ]
        refine take_op (i := 10) (some 84) (v := ?v6) rfl rfl (by kernel_rfl) (by kernel_rfl) (by kernel_rfl) (fun _ _ _ h => h) (Or.inl ⟨by rfl, ?hy6⟩) (by assumption) ?hR6
        case hy6 => (intro w hSw; (try dsimp only at hSw); go_simp; try rfl)
        simp only [Act.put, List.setIfInBounds_toArray, List.set_cons_zero, List.set_cons_succ]
        refine take_op (i := 11) (some 85) (v := ?v7) rfl rfl (by kernel_rfl) (by kernel_rfl) (by kernel_rfl) (fun _ _ _ h => h) (Or.inl ⟨by rfl, ?hy7⟩) (by assumption) ?hR7
        case hy7 => (intro w hSw; (try dsimp only at hSw); go_simp; try rfl)
        simp only [Act.put, List.setIfInBounds_toArray, List.set_cons_zero, List.set_cons_succ]
        refine take_op (i := 12) (some 86) (v := undef) rfl rfl (by kernel_rfl) (by kernel_rfl) (by kernel_rfl) (fun _ _ _ h => h) (Or.inr ⟨by rfl, rfl⟩) (by assumption) ?_
        simp only [Act.put, List.setIfInBounds_toArray, List.set_cons_zero, List.set_cons_succ]
        refine take_op (i := 13) (some 87) (v := undef) rfl rfl (by kernel_rfl) (by kernel_rfl) (by kernel_rfl) (fun _ _ _ h => h) (Or.inr ⟨by rfl, rfl⟩) (by assumption) ?_
        simp only [Act.put, List.setIfInBounds_toArray, List.set_cons_zero, List.set_cons_succ]
        refine take_op (i := 14) (some 88) (v := undef) rfl rfl (by kernel_rfl) (by kernel_rfl) (by kernel_rfl) (fun _ _ _ h => h) (Or.inr ⟨by rfl, rfl⟩) (by assumption) ?_
        simp only [Act.put, List.setIfInBounds_toArray, List.set_cons_zero, List.set_cons_succ]
        refine take_op (i := 15) (some 89) (v := undef) rfl rfl (by kernel_rfl) (by kernel_rfl) (by kernel_rfl) (fun _ _ _ h => h) (Or.inr ⟨by rfl, rfl⟩) (by assumption) ?_
        simp only [Act.put, List.setIfInBounds_toArray, List.set_cons_zero, List.set_cons_succ]
        refine take_op (i := 16) (some 90) (v := undef) rfl rfl (by kernel_rfl) (by kernel_rfl) (by kernel_rfl) (fun _ _ _ h => h) (Or.inr ⟨by rfl, rfl⟩) (by assumption) ?_
        simp only [Act.put, List.setIfInBounds_toArray, List.set_cons_zero, List.set_cons_succ]
        refine take_op (i := 17) (some 91) (v := undef) rfl rfl (by kernel_rfl) (by kernel_rfl) (by kernel_rfl) (fun _ _ _ h => h) (Or.inr ⟨by rfl, rfl⟩) (by assumption) ?_
        simp only [Act.put, List.setIfInBounds_toArray, List.set_cons_zero, List.set_cons_succ]
        refine take_op (i := 18) (some 92) (v := undef) rfl rfl (by kernel_rfl) (by kernel_rfl) (by kernel_rfl) (fun _ _ _ h => h) (Or.inr ⟨by rfl, rfl⟩) (by assumption) ?_
        simp only [Act.put, List.setIfInBounds_toArray, List.set_cons_zero, List.set_cons_succ]
        refine take_op (i := 19) (some 93) (v := undef) rfl rfl (by kernel_rfl) (by kernel_rfl) (by kernel_rfl) (fun _ _ _ h => h) (Or.inr ⟨by rfl, rfl⟩) (by assumption) ?_
        simp only [Act.put, List.setIfInBounds_toArray, List.set_cons_zero, List.set_cons_succ]
        refine take_op (i := 20) (some 94) (v := ?v8) rfl rfl (by kernel_rfl) (by kernel_rfl) (by kernel_rfl) (fun _ _ _ h => h) (Or.inl ⟨by rfl, ?hy8⟩) (by assumption) ?hR8
        case hy8 => (intro w hSw; (try dsimp only at hSw); go_simp; try rfl)
        simp only [Act.put, List.setIfInBounds_toArray, List.set_cons_zero, List.set_cons_succ]
        refine wpAnyH_done (by kernel_rfl) ?_ _
        go_wp2
        go_ret
        exact ⟨ret_int hr.out.symm, HB6⟩
      rw [decide_eq_false m1] at H10
      have hr : Hid (r = if ls < val df ∨ (rp = [] ∧ df ≠ []) then 2 else 0) := by show _ = _; rw [hr.out]; simp [m1]
      clear m1
      by_cases m2 : ls < val df
      · have t2 : decide (0 < cmpI (val df) ls) = true := decide_eq_true (hc12.out.2 m2)
        have t2' : 0 < cmpI (val df) ls := hc12.out.2 m2
        have hr : Hid (r = 2) := by show _ = _; rw [hr.out, if_pos (.inl m2)]
        clear m2 hc12
        generalize cmpI (val df) ls = zz at *
        generalize canon ls = cl at *
        go_wp2_with fail
        refine wp_region_held_drew (S := (fun W => W.cell? ⟨w.heap.size, 0, none⟩ = some (.string ⟨cause.toArray⟩) ∧ W.cell? ⟨w.heap.size, 1, none⟩ = some (.string ⟨lot.toArray⟩) ∧ W.cell? ⟨w.heap.size, 2, none⟩ = some (.string ⟨ins.toArray⟩) ∧ W.cell? ⟨w.heap.size, 3, none⟩ = some (.int .i64 acq) ∧ W.cell? ⟨w.heap.size, 4, none⟩ = some (.int .i64 cls) ∧ W.cell? ⟨w.heap.size, 5, none⟩ = some (.string ⟨q.toArray⟩) ∧ W.cell? ⟨w.heap.size, 6, none⟩ = some (.string ⟨p.toArray⟩) ∧ W.cell? ⟨w.heap.size, 7, none⟩ = some (.string ⟨c.toArray⟩) ∧ W.cell? ⟨w.heap.size, 8, none⟩ = some (.string ⟨df.toArray⟩) ∧ W.cell? ⟨w.heap.size, 9, none⟩ = some (.string ⟨rp.toArray⟩))) (by kernel_rfl) ?hS9 (fun hHeld => ?hR9)
        case hS9 => exact ⟨KB.out.cell 0, KB.out.cell 1, KB.out.cell 2, KB.out.cell 3, KB.out.cell 4, KB.out.cell 5, KB.out.cell 6, KB.out.cell 7, KB.out.cell 8, KB.out.cell 9⟩
        refine take_op (i := 0) (some 74) (v := ?v10) rfl rfl (by kernel_rfl) (by kernel_rfl) (by kernel_rfl) (fun _ _ _ h => h) (Or.inl ⟨by rfl, ?hy10⟩) (by assumption) ?hR10
        case hy10 => (intro w hSw; (try dsimp only at hSw); go_simp; try rfl)
        simp only [Act.put, List.setIfInBounds_toArray, List.set_cons_zero, List.set_cons_succ]
        refine take_op (i := 1) (some 75) (v := ?v11) rfl rfl (by kernel_rfl) (by kernel_rfl) (by kernel_rfl) (fun _ _ _ h => h) (Or.inl ⟨by rfl, ?hy11⟩) (by assumption) ?hR11
        case hy11 => (intro w hSw; (try dsimp only at hSw); go_simp; try rfl)
        simp only [Act.put, List.setIfInBounds_toArray, List.set_cons_zero, List.set_cons_succ]
        refine wpAnyH_ready (rs := [2]) (by kernel_rfl) (by simp) ?_
        refine AllReadyH.cons (o := _) rfl (fun K hK => ?hC12) AllReadyH.nil
        rw [if_pos (by rfl)]
        go_simp
        go_at_call 105
        refine (H10.out _).mono ?_
        rintro e w6 ⟨rfl, hb6⟩
        have HB6 := below_up (below_drewN HB.out 1) hb6
        have KB6 := KB.out.below (below_up (below_drewN (Below.refl _ _) 1) hb6)
        go_wp2_with fail
        refine hK.out _ _ ?hS12 (fun hHeld => ?hR12)
        case hS12 => exact ⟨KB6.cell 0, KB6.cell 1, KB6.cell 2, KB6.cell 3, KB6.cell 4, KB6.cell 5, KB6.cell 6, KB6.cell 7, KB6.cell 8, KB6.cell 9⟩
        try simp only [Act.put, List.setIfInBounds_toArray, List.set_cons_zero, List.set_cons_succ]
        refine take_op (i := 3) (some 77) (v := ?v13) rfl rfl (by kernel_rfl) (by kernel_rfl) (by kernel_rfl) (fun _ _ _ h => h) (Or.inl ⟨by rfl, ?hy13⟩) (by assumption) ?hR13
        case hy13 => (intro w hSw; (try dsimp only at hSw); go_simp; try rfl)
        simp only [Act.put, List.setIfInBounds_toArray, List.set_cons_zero, List.set_cons_succ]
        refine take_op (i := 4) (some 78) (v := ?v14) rfl rfl (by kernel_rfl) (by kernel_rfl) (by kernel_rfl) (fun _ _ _ h => h) (Or.inl ⟨by rfl, ?hy14⟩) (by assumption) ?hR14
        case hy14 => (intro w hSw; (try dsimp only at hSw); go_simp; try rfl)
        simp only [Act.put, List.setIfInBounds_toArray, List.set_cons_zero, List.set_cons_succ]
        refine take_op (i := 5) (some 79) (v := ?v15) rfl rfl (by kernel_rfl) (by kernel_rfl) (by kernel_rfl) (fun _ _ _ h => h) (Or.inl ⟨by rfl, ?hy15⟩) (by assumption) ?hR15
        case hy15 => (intro w hSw; (try dsimp only at hSw); go_simp; try rfl)
        simp only [Act.put, List.setIfInBounds_toArray, List.set_cons_zero, List.set_cons_succ]
        refine take_op (i := 6) (some 80) (v := ?v16) rfl rfl (by kernel_rfl) (by kernel_rfl) (by kernel_rfl) (fun _ _ _ h => h) (Or.inl ⟨by rfl, ?hy16⟩) (by assumption) ?hR16
        case hy16 => (intro w hSw; (try dsimp only at hSw); go_simp; try rfl)
        simp only [Act.put, List.setIfInBounds_toArray, List.set_cons_zero, List.set_cons_succ]
        refine wpAnyH_ready (rs := [7]) (by kernel_rfl) (by simp) ?_
        refine AllReadyH.cons (o := _) rfl (fun K hK => ?hC17) AllReadyH.nil
        rw [if_pos (by rfl)]
        go_simp
        go_at_call 107
        refine (H11.out _ (HE.out.below HB6)).mono ?_
        rintro e w7 ⟨rfl, hb7⟩
        have HB7 := below_up HB6 hb7
        have KB7 := KB6.below hb7
        go_wp2_with fail
        refine hK.out _ _ ?hS17 (fun hHeld => ?hR17)
        case hS17 => exact ⟨KB7.cell 0, KB7.cell 1, KB7.cell 2, KB7.cell 3, KB7.cell 4, KB7.cell 5, KB7.cell 6, KB7.cell 7, KB7.cell 8, KB7.cell 9⟩
        try simp only [Act.put, List.setIfInBounds_toArray, List.set_cons_zero, List.set_cons_succ]
        refine wpAnyH_ready (rs := [8]) (by kernel_rfl) (by simp) ?_
        refine AllReadyH.cons (o := _) rfl (fun K hK => ?hC18) AllReadyH.nil
        rw [if_pos (by rfl)]
        go_simp
        go_at_call 106
        refine (H12.out _).mono ?_
        rintro e w8 ⟨rfl, hb8⟩
        have HB8 := below_up HB7 hb8
        have KB8 := KB7.below hb8
        go_wp2_with fail
        refine hK.out _ _ ?hS18 (fun hHeld => ?hR18)
        case hS18 => exact ⟨KB8.cell 0, KB8.cell 1, KB8.cell 2, KB8.cell 3, KB8.cell 4, KB8.cell 5, KB8.cell 6, KB8.cell 7, KB8.cell 8, KB8.cell 9⟩
        try simp only [Act.put, List.setIfInBounds_toArray, List.set_cons_zero, List.set_cons_succ]
        refine take_op (i := 9) (some 83) (v := ?v19) rfl rfl (by kernel_rfl) (by kernel_rfl) (by kernel_rfl) (fun _ _ _ h => h) (Or.inl ⟨by rfl, ?hy19⟩) (by assumption) ?hR19
        case hy19 => (intro w hSw; (try dsimp only at hSw); go_simp; try rfl)
        simp only [Act.put, List.setIfInBounds_toArray, List.set_cons_zero, List.set_cons_succ]
        refine take_op (i := 10) (some 84) (v := ?v20) rfl rfl (by kernel_rfl) (by kernel_rfl) (by kernel_rfl) (fun _ _ _ h => h) (Or.inl ⟨by rfl, ?hy20⟩) (by assumption) ?hR20
        case hy20 => (intro w hSw; (try dsimp only at hSw); go_simp; try rfl)
        simp only [Act.put, List.setIfInBounds_toArray, List.set_cons_zero, List.set_cons_succ]
        refine take_op (i := 11) (some 85) (v := ?v21) rfl rfl (by kernel_rfl) (by kernel_rfl) (by kernel_rfl) (fun _ _ _ h => h) (Or.inl ⟨by rfl, ?hy21⟩) (by assumption) ?hR21
        case hy21 => (intro w hSw; (try dsimp only at hSw); go_simp; try rfl)
        simp only [Act.put, List.setIfInBounds_toArray, List.set_cons_zero, List.set_cons_succ]
        refine take_op (i := 12) (some 86) (v := undef) rfl rfl (by kernel_rfl) (by kernel_rfl) (by kernel_rfl) (fun _ _ _ h => h) (Or.inr ⟨by rfl, rfl⟩) (by assumption) ?_
        simp only [Act.put, List.setIfInBounds_toArray, List.set_cons_zero, List.set_cons_succ]
        refine take_op (i := 13) (some 87) (v := undef) rfl rfl (by kernel_rfl) (by kernel_rfl) (by kernel_rfl) (fun _ _ _ h => h) (Or.inr ⟨by rfl, rfl⟩) (by assumption) ?_
        simp only [Act.put, List.setIfInBounds_toArray, List.set_cons_zero, List.set_cons_succ]
        refine take_op (i := 14) (some 88) (v := undef) rfl rfl (by kernel_rfl) (by kernel_rfl) (by kernel_rfl) (fun _ _ _ h => h) (Or.inr ⟨by rfl, rfl⟩) (by assumption) ?_
        simp only [Act.put, List.setIfInBounds_toArray, List.set_cons_zero, List.set_cons_succ]
        refine take_op (i := 15) (some 89) (v := undef) rfl rfl (by kernel_rfl) (by kernel_rfl) (by kernel_rfl) (fun _ _ _ h => h) (Or.inr ⟨by rfl, rfl⟩) (by assumption) ?_
        simp only [Act.put, List.setIfInBounds_toArray, List.set_cons_zero, List.set_cons_succ]
        refine take_op (i := 16) (some 90) (v := undef) rfl rfl (by kernel_rfl) (by kernel_rfl) (by kernel_rfl) (fun _ _ _ h => h) (Or.inr ⟨by rfl, rfl⟩) (by assumption) ?_
        simp only [Act.put, List.setIfInBounds_toArray, List.set_cons_zero, List.set_cons_succ]
        refine take_op (i := 17) (some 91) (v := undef) rfl rfl (by kernel_rfl) (by kernel_rfl) (by kernel_rfl) (fun _ _ _ h => h) (Or.inr ⟨by rfl, rfl⟩) (by assumption) ?_
        simp only [Act.put, List.setIfInBounds_toArray, List.set_cons_zero, List.set_cons_succ]
        refine take_op (i := 18) (some 92) (v := undef) rfl rfl (by kernel_rfl) (by kernel_rfl) (by kernel_rfl) (fun _ _ _ h => h) (Or.inr ⟨by rfl, rfl⟩) (by assumption) ?_
        simp only [Act.put, List.setIfInBounds_toArray, List.set_cons_zero, List.set_cons_succ]
        refine take_op (i := 19) (some 93) (v := undef) rfl rfl (by kernel_rfl) (by kernel_rfl) (by kernel_rfl) (fun _ _ _ h => h) (Or.inr ⟨by rfl, rfl⟩) (by assumption) ?_
        simp only [Act.put, List.setIfInBounds_toArray, List.set_cons_zero, List.set_cons_succ]
        refine take_op (i := 20) (some 94) (v := ?v22) rfl rfl (by kernel_rfl) (by kernel_rfl) (by kernel_rfl) (fun _ _ _ h => h) (Or.inl ⟨by rfl, ?hy22⟩) (by assumption) ?hR22
        case hy22 => (intro w hSw; (try dsimp only at hSw); go_simp; try rfl)
        simp only [Act.put, List.setIfInBounds_toArray, List.set_cons_zero, List.set_cons_succ]
        refine wpAnyH_done (by kernel_rfl) ?_ _
        go_wp2
        go_ret
        exact ⟨ret_int hr.out.symm, HB8⟩
      have t2 : decide (0 < cmpI (val df) ls) = false := decide_eq_false (mt hc12.out.1 m2)
      have t2' : ¬ 0 < cmpI (val df) ls := mt hc12.out.1 m2
      have hr : Hid (r = if (rp = [] ∧ df ≠ []) then 2 else 0) := by show _ = _; rw [hr.out]; simp [m2]
      clear m2 hc12
      generalize cmpI (val df) ls = zz at *
      generalize canon ls = cl at *
      by_cases m3 : rp = []
      · by_cases m4 : df = []
        · have hr : Hid (r = 0) := by show _ = _; rw [hr.out]; simp [m4]
          have m3' : rp.isEmpty = true := by simpa using m3
          have m4' : df.isEmpty = true := by simpa using m4
          clear m3 m4
          go_wp2_with fail
          refine wp_region_held_drew (S := (fun W => W.cell? ⟨w.heap.size, 0, none⟩ = some (.string ⟨cause.toArray⟩) ∧ W.cell? ⟨w.heap.size, 1, none⟩ = some (.string ⟨lot.toArray⟩) ∧ W.cell? ⟨w.heap.size, 2, none⟩ = some (.string ⟨ins.toArray⟩) ∧ W.cell? ⟨w.heap.size, 3, none⟩ = some (.int .i64 acq) ∧ W.cell? ⟨w.heap.size, 4, none⟩ = some (.int .i64 cls) ∧ W.cell? ⟨w.heap.size, 5, none⟩ = some (.string ⟨q.toArray⟩) ∧ W.cell? ⟨w.heap.size, 6, none⟩ = some (.string ⟨p.toArray⟩) ∧ W.cell? ⟨w.heap.size, 7, none⟩ = some (.string ⟨c.toArray⟩) ∧ W.cell? ⟨w.heap.size, 8, none⟩ = some (.string ⟨df.toArray⟩) ∧ W.cell? ⟨w.heap.size, 9, none⟩ = some (.string ⟨rp.toArray⟩))) (by kernel_rfl) ?hS23 (fun hHeld => ?hR23)
          case hS23 => exact ⟨KB.out.cell 0, KB.out.cell 1, KB.out.cell 2, KB.out.cell 3, KB.out.cell 4, KB.out.cell 5, KB.out.cell 6, KB.out.cell 7, KB.out.cell 8, KB.out.cell 9⟩
          refine take_op (i := 0) (some 74) (v := ?v24) rfl rfl (by kernel_rfl) (by kernel_rfl) (by kernel_rfl) (fun _ _ _ h => h) (Or.inl ⟨by rfl, ?hy24⟩) (by assumption) ?hR24
          case hy24 => (intro w hSw; (try dsimp only at hSw); go_simp; try rfl)
          simp only [Act.put, List.setIfInBounds_toArray, List.set_cons_zero, List.set_cons_succ]
          refine take_op (i := 1) (some 75) (v := ?v25) rfl rfl (by kernel_rfl) (by kernel_rfl) (by kernel_rfl) (fun _ _ _ h => h) (Or.inl ⟨by rfl, ?hy25⟩) (by assumption) ?hR25
          case hy25 => (intro w hSw; (try dsimp only at hSw); go_simp; try rfl)
          simp only [Act.put, List.setIfInBounds_toArray, List.set_cons_zero, List.set_cons_succ]
          refine wpAnyH_ready (rs := [2]) (by kernel_rfl) (by simp) ?_
          refine AllReadyH.cons (o := _) rfl (fun K hK => ?hC26) AllReadyH.nil
          rw [if_pos (by rfl)]
          go_simp
          go_at_call 105
          refine (H10.out _).mono ?_
          rintro e w6 ⟨rfl, hb6⟩
          have HB6 := below_up (below_drewN HB.out 1) hb6
          have KB6 := KB.out.below (below_up (below_drewN (Below.refl _ _) 1) hb6)
          go_wp2_with fail
          refine hK.out _ _ ?hS26 (fun hHeld => ?hR26)
          case hS26 => exact ⟨KB6.cell 0, KB6.cell 1, KB6.cell 2, KB6.cell 3, KB6.cell 4, KB6.cell 5, KB6.cell 6, KB6.cell 7, KB6.cell 8, KB6.cell 9⟩
          try simp only [Act.put, List.setIfInBounds_toArray, List.set_cons_zero, List.set_cons_succ]
          refine take_op (i := 3) (some 77) (v := ?v27) rfl rfl (by kernel_rfl) (by kernel_rfl) (by kernel_rfl) (fun _ _ _ h => h) (Or.inl ⟨by rfl, ?hy27⟩) (by assumption) ?hR27
          case hy27 => (intro w hSw; (try dsimp only at hSw); go_simp; try rfl)
          simp only [Act.put, List.setIfInBounds_toArray, List.set_cons_zero, List.set_cons_succ]
          refine take_op (i := 4) (some 78) (v := ?v28) rfl rfl (by kernel_rfl) (by kernel_rfl) (by kernel_rfl) (fun _ _ _ h => h) (Or.inl ⟨by rfl, ?hy28⟩) (by assumption) ?hR28
          case hy28 => (intro w hSw; (try dsimp only at hSw); go_simp; try rfl)
          simp only [Act.put, List.setIfInBounds_toArray, List.set_cons_zero, List.set_cons_succ]
          refine take_op (i := 5) (some 79) (v := ?v29) rfl rfl (by kernel_rfl) (by kernel_rfl) (by kernel_rfl) (fun _ _ _ h => h) (Or.inl ⟨by rfl, ?hy29⟩) (by assumption) ?hR29
          case hy29 => (intro w hSw; (try dsimp only at hSw); go_simp; try rfl)
          simp only [Act.put, List.setIfInBounds_toArray, List.set_cons_zero, List.set_cons_succ]
          refine take_op (i := 6) (some 80) (v := ?v30) rfl rfl (by kernel_rfl) (by kernel_rfl) (by kernel_rfl) (fun _ _ _ h => h) (Or.inl ⟨by rfl, ?hy30⟩) (by assumption) ?hR30
          case hy30 => (intro w hSw; (try dsimp only at hSw); go_simp; try rfl)
          simp only [Act.put, List.setIfInBounds_toArray, List.set_cons_zero, List.set_cons_succ]
          refine wpAnyH_ready (rs := [7]) (by kernel_rfl) (by simp) ?_
          refine AllReadyH.cons (o := _) rfl (fun K hK => ?hC31) AllReadyH.nil
          rw [if_pos (by rfl)]
          go_simp
          go_at_call 107
          refine (H11.out _ (HE.out.below HB6)).mono ?_
          rintro e w7 ⟨rfl, hb7⟩
          have HB7 := below_up HB6 hb7
          have KB7 := KB6.below hb7
          go_wp2_with fail
          refine hK.out _ _ ?hS31 (fun hHeld => ?hR31)
          case hS31 => exact ⟨KB7.cell 0, KB7.cell 1, KB7.cell 2, KB7.cell 3, KB7.cell 4, KB7.cell 5, KB7.cell 6, KB7.cell 7, KB7.cell 8, KB7.cell 9⟩
          try simp only [Act.put, List.setIfInBounds_toArray, List.set_cons_zero, List.set_cons_succ]
          refine wpAnyH_ready (rs := [8]) (by kernel_rfl) (by simp) ?_
          refine AllReadyH.cons (o := _) rfl (fun K hK => ?hC32) AllReadyH.nil
          rw [if_pos (by rfl)]
          go_simp
          go_at_call 106
          refine (H12.out _).mono ?_
          rintro e w8 ⟨rfl, hb8⟩
          have HB8 := below_up HB7 hb8
          have KB8 := KB7.below hb8
          go_wp2_with fail
          refine hK.out _ _ ?hS32 (fun hHeld => ?hR32)
          case hS32 => exact ⟨KB8.cell 0, KB8.cell 1, KB8.cell 2, KB8.cell 3, KB8.cell 4, KB8.cell 5, KB8.cell 6, KB8.cell 7, KB8.cell 8, KB8.cell 9⟩
          try simp only [Act.put, List.setIfInBounds_toArray, List.set_cons_zero, List.set_cons_succ]
          refine take_op (i := 9) (some 83) (v := ?v33) rfl rfl (by kernel_rfl) (by kernel_rfl) (by kernel_rfl) (fun _ _ _ h => h) (Or.inl ⟨by rfl, ?hy33⟩) (by assumption) ?hR33
          case hy33 => (intro w hSw; (try dsimp only at hSw); go_simp; try rfl)
          simp only [Act.put, List.setIfInBounds_toArray, List.set_cons_zero, List.set_cons_succ]
          refine take_op (i := 10) (some 84) (v := ?v34) rfl rfl (by kernel_rfl) (by kernel_rfl) (by kernel_rfl) (fun _ _ _ h => h) (Or.inl ⟨by rfl, ?hy34⟩) (by assumption) ?hR34
          case hy34 => (intro w hSw; (try dsimp only at hSw); go_simp; try rfl)
          simp only [Act.put, List.setIfInBounds_toArray, List.set_cons_zero, List.set_cons_succ]
          refine take_op (i := 11) (some 85) (v := ?v35) rfl rfl (by kernel_rfl) (by kernel_rfl) (by kernel_rfl) (fun _ _ _ h => h) (Or.inl ⟨by rfl, ?hy35⟩) (by assumption) ?hR35
          case hy35 => (intro w hSw; (try dsimp only at hSw); go_simp; try rfl)
          simp only [Act.put, List.setIfInBounds_toArray, List.set_cons_zero, List.set_cons_succ]
          refine take_op (i := 12) (some 86) (v := ?v36) rfl rfl (by kernel_rfl) (by kernel_rfl) (by kernel_rfl) (fun _ _ _ h => h) (Or.inl ⟨by rfl, ?hy36⟩) (by assumption) ?hR36
          case hy36 => (intro w hSw; (try dsimp only at hSw); go_simp; try rfl)
          simp only [Act.put, List.setIfInBounds_toArray, List.set_cons_zero, List.set_cons_succ]
          refine take_op (i := 13) (some 87) (v := ?v37) rfl rfl (by kernel_rfl) (by kernel_rfl) (by kernel_rfl) (fun _ _ _ h => h) (Or.inl ⟨by rfl, ?hy37⟩) (by assumption) ?hR37
          case hy37 => (intro w hSw; (try dsimp only at hSw); go_simp; try rfl)
          simp only [Act.put, List.setIfInBounds_toArray, List.set_cons_zero, List.set_cons_succ]
          refine take_op (i := 14) (some 88) (v := ?v38) rfl rfl (by kernel_rfl) (by kernel_rfl) (by kernel_rfl) (fun _ _ _ h => h) (Or.inl ⟨by rfl, ?hy38⟩) (by assumption) ?hR38
          case hy38 => (intro w hSw; (try dsimp only at hSw); go_simp; try rfl)
          simp only [Act.put, List.setIfInBounds_toArray, List.set_cons_zero, List.set_cons_succ]
          refine take_op (i := 15) (some 89) (v := ?v39) rfl rfl (by kernel_rfl) (by kernel_rfl) (by kernel_rfl) (fun _ _ _ h => h) (Or.inl ⟨by rfl, ?hy39⟩) (by assumption) ?hR39
          case hy39 => (intro w hSw; (try dsimp only at hSw); go_simp; try rfl)
          simp only [Act.put, List.setIfInBounds_toArray, List.set_cons_zero, List.set_cons_succ]
          refine take_op (i := 16) (some 90) (v := ?v40) rfl rfl (by kernel_rfl) (by kernel_rfl) (by kernel_rfl) (fun _ _ _ h => h) (Or.inl ⟨by rfl, ?hy40⟩) (by assumption) ?hR40
          case hy40 => (intro w hSw; (try dsimp only at hSw); go_simp; try rfl)
          simp only [Act.put, List.setIfInBounds_toArray, List.set_cons_zero, List.set_cons_succ]
          refine take_op (i := 17) (some 91) (v := ?v41) rfl rfl (by kernel_rfl) (by kernel_rfl) (by kernel_rfl) (fun _ _ _ h => h) (Or.inl ⟨by rfl, ?hy41⟩) (by assumption) ?hR41
          case hy41 => (intro w hSw; (try dsimp only at hSw); go_simp; try rfl)
          simp only [Act.put, List.setIfInBounds_toArray, List.set_cons_zero, List.set_cons_succ]
          refine take_op (i := 18) (some 92) (v := ?v42) rfl rfl (by kernel_rfl) (by kernel_rfl) (by kernel_rfl) (fun _ _ _ h => h) (Or.inl ⟨by rfl, ?hy42⟩) (by assumption) ?hR42
          case hy42 => (intro w hSw; (try dsimp only at hSw); go_simp; try rfl)
          simp only [Act.put, List.setIfInBounds_toArray, List.set_cons_zero, List.set_cons_succ]
          refine take_op (i := 19) (some 93) (v := ?v43) rfl rfl (by kernel_rfl) (by kernel_rfl) (by kernel_rfl) (fun _ _ _ h => h) (Or.inl ⟨by rfl, ?hy43⟩) (by assumption) ?hR43
          case hy43 => (intro w hSw; (try dsimp only at hSw); go_simp; try rfl)
          simp only [Act.put, List.setIfInBounds_toArray, List.set_cons_zero, List.set_cons_succ]
          refine take_op (i := 20) (some 94) (v := ?v44) rfl rfl (by kernel_rfl) (by kernel_rfl) (by kernel_rfl) (fun _ _ _ h => h) (Or.inl ⟨by rfl, ?hy44⟩) (by assumption) ?hR44
          case hy44 => (intro w hSw; (try dsimp only at hSw); go_simp; try rfl)
          simp only [Act.put, List.setIfInBounds_toArray, List.set_cons_zero, List.set_cons_succ]
          refine wpAnyH_done (by kernel_rfl) ?_ _
          go_wp2
          go_ret
          exact ⟨ret_int hr.out.symm, HB8⟩
        · have hr : Hid (r = 2) := by show _ = _; rw [hr.out]; simp [m3, m4]
          have m3' : rp.isEmpty = true := by simpa using m3
          have m4' : df.isEmpty = false := by simpa using m4
          clear m3 m4
          go_wp2_with fail
          refine wp_region_held_drew (S := (fun W => W.cell? ⟨w.heap.size, 0, none⟩ = some (.string ⟨cause.toArray⟩) ∧ W.cell? ⟨w.heap.size, 1, none⟩ = some (.string ⟨lot.toArray⟩) ∧ W.cell? ⟨w.heap.size, 2, none⟩ = some (.string ⟨ins.toArray⟩) ∧ W.cell? ⟨w.heap.size, 3, none⟩ = some (.int .i64 acq) ∧ W.cell? ⟨w.heap.size, 4, none⟩ = some (.int .i64 cls) ∧ W.cell? ⟨w.heap.size, 5, none⟩ = some (.string ⟨q.toArray⟩) ∧ W.cell? ⟨w.heap.size, 6, none⟩ = some (.string ⟨p.toArray⟩) ∧ W.cell? ⟨w.heap.size, 7, none⟩ = some (.string ⟨c.toArray⟩) ∧ W.cell? ⟨w.heap.size, 8, none⟩ = some (.string ⟨df.toArray⟩) ∧ W.cell? ⟨w.heap.size, 9, none⟩ = some (.string ⟨rp.toArray⟩))) (by kernel_rfl) ?hS45 (fun hHeld => ?hR45)
          case hS45 => exact ⟨KB.out.cell 0, KB.out.cell 1, KB.out.cell 2, KB.out.cell 3, KB.out.cell 4, KB.out.cell 5, KB.out.cell 6, KB.out.cell 7, KB.out.cell 8, KB.out.cell 9⟩
          refine take_op (i := 0) (some 74) (v := ?v46) rfl rfl (by kernel_rfl) (by kernel_rfl) (by kernel_rfl) (fun _ _ _ h => h) (Or.inl ⟨by rfl, ?hy46⟩) (by assumption) ?hR46
          case hy46 => (intro w hSw; (try dsimp only at hSw); go_simp; try rfl)
          simp only [Act.put, List.setIfInBounds_toArray, List.set_cons_zero, List.set_cons_succ]
          refine take_op (i := 1) (some 75) (v := ?v47) rfl rfl (by kernel_rfl) (by kernel_rfl) (by kernel_rfl) (fun _ _ _ h => h) (Or.inl ⟨by rfl, ?hy47⟩) (by assumption) ?hR47
          case hy47 => (intro w hSw; (try dsimp only at hSw); go_simp; try rfl)
          simp only [Act.put, List.setIfInBounds_toArray, List.set_cons_zero, List.set_cons_succ]
          refine wpAnyH_ready (rs := [2]) (by kernel_rfl) (by simp) ?_
          refine AllReadyH.cons (o := _) rfl (fun K hK => ?hC48) AllReadyH.nil
          rw [if_pos (by rfl)]
          go_simp
          go_at_call 105
          refine (H10.out _).mono ?_
          rintro e w6 ⟨rfl, hb6⟩
          have HB6 := below_up (below_drewN HB.out 1) hb6
          have KB6 := KB.out.below (below_up (below_drewN (Below.refl _ _) 1) hb6)
          go_wp2_with fail
          refine hK.out _ _ ?hS48 (fun hHeld => ?hR48)
          case hS48 => exact ⟨KB6.cell 0, KB6.cell 1, KB6.cell 2, KB6.cell 3, KB6.cell 4, KB6.cell 5, KB6.cell 6, KB6.cell 7, KB6.cell 8, KB6.cell 9⟩
          try simp only [Act.put, List.setIfInBounds_toArray, List.set_cons_zero, List.set_cons_succ]
          refine take_op (i := 3) (some 77) (v := ?v49) rfl rfl (by kernel_rfl) (by kernel_rfl) (by kernel_rfl) (fun _ _ _ h => h) (Or.inl ⟨by rfl, ?hy49⟩) (by assumption) ?hR49
          case hy49 => (intro w hSw; (try dsimp only at hSw); go_simp; try rfl)
          simp only [Act.put, List.setIfInBounds_toArray, List.set_cons_zero, List.set_cons_succ]
          refine take_op (i := 4) (some 78) (v := ?v50) rfl rfl (by kernel_rfl) (by kernel_rfl) (by kernel_rfl) (fun _ _ _ h => h) (Or.inl ⟨by rfl, ?hy50⟩) (by assumption) ?hR50
          case hy50 => (intro w hSw; (try dsimp only at hSw); go_simp; try rfl)
          simp only [Act.put, List.setIfInBounds_toArray, List.set_cons_zero, List.set_cons_succ]
          refine take_op (i := 5) (some 79) (v := ?v51) rfl rfl (by kernel_rfl) (by kernel_rfl) (by kernel_rfl) (fun _ _ _ h => h) (Or.inl ⟨by rfl, ?hy51⟩) (by assumption) ?hR51
          case hy51 => (intro w hSw; (try dsimp only at hSw); go_simp; try rfl)
          simp only [Act.put, List.setIfInBounds_toArray, List.set_cons_zero, List.set_cons_succ]
          refine take_op (i := 6) (some 80) (v := ?v52) rfl rfl (by kernel_rfl) (by kernel_rfl) (by kernel_rfl) (fun _ _ _ h => h) (Or.inl ⟨by rfl, ?hy52⟩) (by assumption) ?hR52
          case hy52 => (intro w hSw; (try dsimp only at hSw); go_simp; try rfl)
          simp only [Act.put, List.setIfInBounds_toArray, List.set_cons_zero, List.set_cons_succ]
          refine wpAnyH_ready (rs := [7]) (by kernel_rfl) (by simp) ?_
          refine AllReadyH.cons (o := _) rfl (fun K hK => ?hC53) AllReadyH.nil
          rw [if_pos (by rfl)]
          go_simp
          go_at_call 107
          refine (H11.out _ (HE.out.below HB6)).mono ?_
          rintro e w7 ⟨rfl, hb7⟩
          have HB7 := below_up HB6 hb7
          have KB7 := KB6.below hb7
          go_wp2_with fail
          refine hK.out _ _ ?hS53 (fun hHeld => ?hR53)
          case hS53 => exact ⟨KB7.cell 0, KB7.cell 1, KB7.cell 2, KB7.cell 3, KB7.cell 4, KB7.cell 5, KB7.cell 6, KB7.cell 7, KB7.cell 8, KB7.cell 9⟩
          try simp only [Act.put, List.setIfInBounds_toArray, List.set_cons_zero, List.set_cons_succ]
          refine wpAnyH_ready (rs := [8]) (by kernel_rfl) (by simp) ?_
          refine AllReadyH.cons (o := _) rfl (fun K hK => ?hC54) AllReadyH.nil
          rw [if_pos (by rfl)]
          go_simp
          go_at_call 106
          refine (H12.out _).mono ?_
          rintro e w8 ⟨rfl, hb8⟩
          have HB8 := below_up HB7 hb8
          have KB8 := KB7.below hb8
          go_wp2_with fail
          refine hK.out _ _ ?hS54 (fun hHeld => ?hR54)
          case hS54 => exact ⟨KB8.cell 0, KB8.cell 1, KB8.cell 2, KB8.cell 3, KB8.cell 4, KB8.cell 5, KB8.cell 6, KB8.cell 7, KB8.cell 8, KB8.cell 9⟩
          try simp only [Act.put, List.setIfInBounds_toArray, List.set_cons_zero, List.set_cons_succ]
          refine take_op (i := 9) (some 83) (v := ?v55) rfl rfl (by kernel_rfl) (by kernel_rfl) (by kernel_rfl) (fun _ _ _ h => h) (Or.inl ⟨by rfl, ?hy55⟩) (by assumption) ?hR55
          case hy55 => (intro w hSw; (try dsimp only at hSw); go_simp; try rfl)
          simp only [Act.put, List.setIfInBounds_toArray, List.set_cons_zero, List.set_cons_succ]
          refine take_op (i := 10) (some 84) (v := ?v56) rfl rfl (by kernel_rfl) (by kernel_rfl) (by kernel_rfl) (fun _ _ _ h => h) (Or.inl ⟨by rfl, ?hy56⟩) (by assumption) ?hR56
          case hy56 => (intro w hSw; (try dsimp only at hSw); go_simp; try rfl)
          simp only [Act.put, List.setIfInBounds_toArray, List.set_cons_zero, List.set_cons_succ]
          refine take_op (i := 11) (some 85) (v := ?v57) rfl rfl (by kernel_rfl) (by kernel_rfl) (by kernel_rfl) (fun _ _ _ h => h) (Or.inl ⟨by rfl, ?hy57⟩) (by assumption) ?hR57
          case hy57 => (intro w hSw; (try dsimp only at hSw); go_simp; try rfl)
          simp only [Act.put, List.setIfInBounds_toArray, List.set_cons_zero, List.set_cons_succ]
          refine take_op (i := 12) (some 86) (v := ?v58) rfl rfl (by kernel_rfl) (by kernel_rfl) (by kernel_rfl) (fun _ _ _ h => h) (Or.inl ⟨by rfl, ?hy58⟩) (by assumption) ?hR58
          case hy58 => (intro w hSw; (try dsimp only at hSw); go_simp; try rfl)
          simp only [Act.put, List.setIfInBounds_toArray, List.set_cons_zero, List.set_cons_succ]
          refine take_op (i := 13) (some 87) (v := ?v59) rfl rfl (by kernel_rfl) (by kernel_rfl) (by kernel_rfl) (fun _ _ _ h => h) (Or.inl ⟨by rfl, ?hy59⟩) (by assumption) ?hR59
          case hy59 => (intro w hSw; (try dsimp only at hSw); go_simp; try rfl)
          simp only [Act.put, List.setIfInBounds_toArray, List.set_cons_zero, List.set_cons_succ]
          refine take_op (i := 14) (some 88) (v := ?v60) rfl rfl (by kernel_rfl) (by kernel_rfl) (by kernel_rfl) (fun _ _ _ h => h) (Or.inl ⟨by rfl, ?hy60⟩) (by assumption) ?hR60
          case hy60 => (intro w hSw; (try dsimp only at hSw); go_simp; try rfl)
          simp only [Act.put, List.setIfInBounds_toArray, List.set_cons_zero, List.set_cons_succ]
          refine take_op (i := 15) (some 89) (v := ?v61) rfl rfl (by kernel_rfl) (by kernel_rfl) (by kernel_rfl) (fun _ _ _ h => h) (Or.inl ⟨by rfl, ?hy61⟩) (by assumption) ?hR61
          case hy61 => (intro w hSw; (try dsimp only at hSw); go_simp; try rfl)
          simp only [Act.put, List.setIfInBounds_toArray, List.set_cons_zero, List.set_cons_succ]
          refine take_op (i := 16) (some 90) (v := ?v62) rfl rfl (by kernel_rfl) (by kernel_rfl) (by kernel_rfl) (fun _ _ _ h => h) (Or.inl ⟨by rfl, ?hy62⟩) (by assumption) ?hR62
          case hy62 => (intro w hSw; (try dsimp only at hSw); go_simp; try rfl)
          simp only [Act.put, List.setIfInBounds_toArray, List.set_cons_zero, List.set_cons_succ]
          refine take_op (i := 17) (some 91) (v := ?v63) rfl rfl (by kernel_rfl) (by kernel_rfl) (by kernel_rfl) (fun _ _ _ h => h) (Or.inl ⟨by rfl, ?hy63⟩) (by assumption) ?hR63
          case hy63 => (intro w hSw; (try dsimp only at hSw); go_simp; try rfl)
          simp only [Act.put, List.setIfInBounds_toArray, List.set_cons_zero, List.set_cons_succ]
          refine take_op (i := 18) (some 92) (v := ?v64) rfl rfl (by kernel_rfl) (by kernel_rfl) (by kernel_rfl) (fun _ _ _ h => h) (Or.inl ⟨by rfl, ?hy64⟩) (by assumption) ?hR64
          case hy64 => (intro w hSw; (try dsimp only at hSw); go_simp; try rfl)
          simp only [Act.put, List.setIfInBounds_toArray, List.set_cons_zero, List.set_cons_succ]
          refine take_op (i := 19) (some 93) (v := ?v65) rfl rfl (by kernel_rfl) (by kernel_rfl) (by kernel_rfl) (fun _ _ _ h => h) (Or.inl ⟨by rfl, ?hy65⟩) (by assumption) ?hR65
          case hy65 => (intro w hSw; (try dsimp only at hSw); go_simp; try rfl)
          simp only [Act.put, List.setIfInBounds_toArray, List.set_cons_zero, List.set_cons_succ]
          refine take_op (i := 20) (some 94) (v := ?v66) rfl rfl (by kernel_rfl) (by kernel_rfl) (by kernel_rfl) (fun _ _ _ h => h) (Or.inl ⟨by rfl, ?hy66⟩) (by assumption) ?hR66
          case hy66 => (intro w hSw; (try dsimp only at hSw); go_simp; try rfl)
          simp only [Act.put, List.setIfInBounds_toArray, List.set_cons_zero, List.set_cons_succ]
          refine wpAnyH_done (by kernel_rfl) ?_ _
          go_wp2
          go_ret
          exact ⟨ret_int hr.out.symm, HB8⟩
      · have hr : Hid (r = 0) := by show _ = _; rw [hr.out]; simp [m3]
        have m3' : rp.isEmpty = false := by simpa using m3
        clear m3
        go_wp2_with fail
        refine wp_region_held_drew (S := (fun W => W.cell? ⟨w.heap.size, 0, none⟩ = some (.string ⟨cause.toArray⟩) ∧ W.cell? ⟨w.heap.size, 1, none⟩ = some (.string ⟨lot.toArray⟩) ∧ W.cell? ⟨w.heap.size, 2, none⟩ = some (.string ⟨ins.toArray⟩) ∧ W.cell? ⟨w.heap.size, 3, none⟩ = some (.int .i64 acq) ∧ W.cell? ⟨w.heap.size, 4, none⟩ = some (.int .i64 cls) ∧ W.cell? ⟨w.heap.size, 5, none⟩ = some (.string ⟨q.toArray⟩) ∧ W.cell? ⟨w.heap.size, 6, none⟩ = some (.string ⟨p.toArray⟩) ∧ W.cell? ⟨w.heap.size, 7, none⟩ = some (.string ⟨c.toArray⟩) ∧ W.cell? ⟨w.heap.size, 8, none⟩ = some (.string ⟨df.toArray⟩) ∧ W.cell? ⟨w.heap.size, 9, none⟩ = some (.string ⟨rp.toArray⟩))) (by kernel_rfl) ?hS67 (fun hHeld => ?hR67)
        case hS67 => exact ⟨KB.out.cell 0, KB.out.cell 1, KB.out.cell 2, KB.out.cell 3, KB.out.cell 4, KB.out.cell 5, KB.out.cell 6, KB.out.cell 7, KB.out.cell 8, KB.out.cell 9⟩
        refine take_op (i := 0) (some 74) (v := ?v68) rfl rfl (by kernel_rfl) (by kernel_rfl) (by kernel_rfl) (fun _ _ _ h => h) (Or.inl ⟨by rfl, ?hy68⟩) (by assumption) ?hR68
        case hy68 => (intro w hSw; (try dsimp only at hSw); go_simp; try rfl)
        simp only [Act.put, List.setIfInBounds_toArray, List.set_cons_zero, List.set_cons_succ]
        refine take_op (i := 1) (some 75) (v := ?v69) rfl rfl (by kernel_rfl) (by kernel_rfl) (by kernel_rfl) (fun _ _ _ h => h) (Or.inl ⟨by rfl, ?hy69⟩) (by assumption) ?hR69
        case hy69 => (intro w hSw; (try dsimp only at hSw); go_simp; try rfl)
        simp only [Act.put, List.setIfInBounds_toArray, List.set_cons_zero, List.set_cons_succ]
        refine wpAnyH_ready (rs := [2]) (by kernel_rfl) (by simp) ?_
        refine AllReadyH.cons (o := _) rfl (fun K hK => ?hC70) AllReadyH.nil
        rw [if_pos (by rfl)]
        go_simp
        go_at_call 105
        refine (H10.out _).mono ?_
        rintro e w6 ⟨rfl, hb6⟩
        have HB6 := below_up (below_drewN HB.out 1) hb6
        have KB6 := KB.out.below (below_up (below_drewN (Below.refl _ _) 1) hb6)
        go_wp2_with fail
        refine hK.out _ _ ?hS70 (fun hHeld => ?hR70)
        case hS70 => exact ⟨KB6.cell 0, KB6.cell 1, KB6.cell 2, KB6.cell 3, KB6.cell 4, KB6.cell 5, KB6.cell 6, KB6.cell 7, KB6.cell 8, KB6.cell 9⟩
        try simp only [Act.put, List.setIfInBounds_toArray, List.set_cons_zero, List.set_cons_succ]
        refine take_op (i := 3) (some 77) (v := ?v71) rfl rfl (by kernel_rfl) (by kernel_rfl) (by kernel_rfl) (fun _ _ _ h => h) (Or.inl ⟨by rfl, ?hy71⟩) (by assumption) ?hR71
        case hy71 => (intro w hSw; (try dsimp only at hSw); go_simp; try rfl)
        simp only [Act.put, List.setIfInBounds_toArray, List.set_cons_zero, List.set_cons_succ]
        refine take_op (i := 4) (some 78) (v := ?v72) rfl rfl (by kernel_rfl) (by kernel_rfl) (by kernel_rfl) (fun _ _ _ h => h) (Or.inl ⟨by rfl, ?hy72⟩) (by assumption) ?hR72
        case hy72 => (intro w hSw; (try dsimp only at hSw); go_simp; try rfl)
        simp only [Act.put, List.setIfInBounds_toArray, List.set_cons_zero, List.set_cons_succ]
        refine take_op (i := 5) (some 79) (v := ?v73) rfl rfl (by kernel_rfl) (by kernel_rfl) (by kernel_rfl) (fun _ _ _ h => h) (Or.inl ⟨by rfl, ?hy73⟩) (by assumption) ?hR73
        case hy73 => (intro w hSw; (try dsimp only at hSw); go_simp; try rfl)
        simp only [Act.put, List.setIfInBounds_toArray, List.set_cons_zero, List.set_cons_succ]
        refine take_op (i := 6) (some 80) (v := ?v74) rfl rfl (by kernel_rfl) (by kernel_rfl) (by kernel_rfl) (fun _ _ _ h => h) (Or.inl ⟨by rfl, ?hy74⟩) (by assumption) ?hR74
        case hy74 => (intro w hSw; (try dsimp only at hSw); go_simp; try rfl)
        simp only [Act.put, List.setIfInBounds_toArray, List.set_cons_zero, List.set_cons_succ]
        refine wpAnyH_ready (rs := [7]) (by kernel_rfl) (by simp) ?_
        refine AllReadyH.cons (o := _) rfl (fun K hK => ?hC75) AllReadyH.nil
        rw [if_pos (by rfl)]
        go_simp
        go_at_call 107
        refine (H11.out _ (HE.out.below HB6)).mono ?_
        rintro e w7 ⟨rfl, hb7⟩
        have HB7 := below_up HB6 hb7
        have KB7 := KB6.below hb7
        go_wp2_with fail
        refine hK.out _ _ ?hS75 (fun hHeld => ?hR75)
        case hS75 => exact ⟨KB7.cell 0, KB7.cell 1, KB7.cell 2, KB7.cell 3, KB7.cell 4, KB7.cell 5, KB7.cell 6, KB7.cell 7, KB7.cell 8, KB7.cell 9⟩
        try simp only [Act.put, List.setIfInBounds_toArray, List.set_cons_zero, List.set_cons_succ]
        refine wpAnyH_ready (rs := [8]) (by kernel_rfl) (by simp) ?_
        refine AllReadyH.cons (o := _) rfl (fun K hK => ?hC76) AllReadyH.nil
        rw [if_pos (by rfl)]
        go_simp
        go_at_call 106
        refine (H12.out _).mono ?_
        rintro e w8 ⟨rfl, hb8⟩
        have HB8 := below_up HB7 hb8
        have KB8 := KB7.below hb8
        go_wp2_with fail
        refine hK.out _ _ ?hS76 (fun hHeld => ?hR76)
        case hS76 => exact ⟨KB8.cell 0, KB8.cell 1, KB8.cell 2, KB8.cell 3, KB8.cell 4, KB8.cell 5, KB8.cell 6, KB8.cell 7, KB8.cell 8, KB8.cell 9⟩
        try simp only [Act.put, List.setIfInBounds_toArray, List.set_cons_zero, List.set_cons_succ]
        refine take_op (i := 9) (some 83) (v := ?v77) rfl rfl (by kernel_rfl) (by kernel_rfl) (by kernel_rfl) (fun _ _ _ h => h) (Or.inl ⟨by rfl, ?hy77⟩) (by assumption) ?hR77
        case hy77 => (intro w hSw; (try dsimp only at hSw); go_simp; try rfl)
        simp only [Act.put, List.setIfInBounds_toArray, List.set_cons_zero, List.set_cons_succ]
        refine take_op (i := 10) (some 84) (v := ?v78) rfl rfl (by kernel_rfl) (by kernel_rfl) (by kernel_rfl) (fun _ _ _ h => h) (Or.inl ⟨by rfl, ?hy78⟩) (by assumption) ?hR78
        case hy78 => (intro w hSw; (try dsimp only at hSw); go_simp; try rfl)
        simp only [Act.put, List.setIfInBounds_toArray, List.set_cons_zero, List.set_cons_succ]
        refine take_op (i := 11) (some 85) (v := ?v79) rfl rfl (by kernel_rfl) (by kernel_rfl) (by kernel_rfl) (fun _ _ _ h => h) (Or.inl ⟨by rfl, ?hy79⟩) (by assumption) ?hR79
        case hy79 => (intro w hSw; (try dsimp only at hSw); go_simp; try rfl)
        simp only [Act.put, List.setIfInBounds_toArray, List.set_cons_zero, List.set_cons_succ]
        refine take_op (i := 12) (some 86) (v := ?v80) rfl rfl (by kernel_rfl) (by kernel_rfl) (by kernel_rfl) (fun _ _ _ h => h) (Or.inl ⟨by rfl, ?hy80⟩) (by assumption) ?hR80
        case hy80 => (intro w hSw; (try dsimp only at hSw); go_simp; try rfl)
        simp only [Act.put, List.setIfInBounds_toArray, List.set_cons_zero, List.set_cons_succ]
        refine take_op (i := 13) (some 87) (v := ?v81) rfl rfl (by kernel_rfl) (by kernel_rfl) (by kernel_rfl) (fun _ _ _ h => h) (Or.inl ⟨by rfl, ?hy81⟩) (by assumption) ?hR81
        case hy81 => (intro w hSw; (try dsimp only at hSw); go_simp; try rfl)
        simp only [Act.put, List.setIfInBounds_toArray, List.set_cons_zero, List.set_cons_succ]
        refine take_op (i := 14) (some 88) (v := ?v82) rfl rfl (by kernel_rfl) (by kernel_rfl) (by kernel_rfl) (fun _ _ _ h => h) (Or.inl ⟨by rfl, ?hy82⟩) (by assumption) ?hR82
        case hy82 => (intro w hSw; (try dsimp only at hSw); go_simp; try rfl)
        simp only [Act.put, List.setIfInBounds_toArray, List.set_cons_zero, List.set_cons_succ]
        refine take_op (i := 15) (some 89) (v := ?v83) rfl rfl (by kernel_rfl) (by kernel_rfl) (by kernel_rfl) (fun _ _ _ h => h) (Or.inl ⟨by rfl, ?hy83⟩) (by assumption) ?hR83
        case hy83 => (intro w hSw; (try dsimp only at hSw); go_simp; try rfl)
        simp only [Act.put, List.setIfInBounds_toArray, List.set_cons_zero, List.set_cons_succ]
        refine take_op (i := 16) (some 90) (v := undef) rfl rfl (by kernel_rfl) (by kernel_rfl) (by kernel_rfl) (fun _ _ _ h => h) (Or.inr ⟨by rfl, rfl⟩) (by assumption) ?_
        simp only [Act.put, List.setIfInBounds_toArray, List.set_cons_zero, List.set_cons_succ]
        refine take_op (i := 17) (some 91) (v := undef) rfl rfl (by kernel_rfl) (by kernel_rfl) (by kernel_rfl) (fun _ _ _ h => h) (Or.inr ⟨by rfl, rfl⟩) (by assumption) ?_
        simp only [Act.put, List.setIfInBounds_toArray, List.set_cons_zero, List.set_cons_succ]
        refine take_op (i := 18) (some 92) (v := undef) rfl rfl (by kernel_rfl) (by kernel_rfl) (by kernel_rfl) (fun _ _ _ h => h) (Or.inr ⟨by rfl, rfl⟩) (by assumption) ?_
        simp only [Act.put, List.setIfInBounds_toArray, List.set_cons_zero, List.set_cons_succ]
        refine take_op (i := 19) (some 93) (v := ?v84) rfl rfl (by kernel_rfl) (by kernel_rfl) (by kernel_rfl) (fun _ _ _ h => h) (Or.inl ⟨by rfl, ?hy84⟩) (by assumption) ?hR84
        case hy84 => (intro w hSw; (try dsimp only at hSw); go_simp; try rfl)
        simp only [Act.put, List.setIfInBounds_toArray, List.set_cons_zero, List.set_cons_succ]
        refine take_op (i := 20) (some 94) (v := ?v85) rfl rfl (by kernel_rfl) (by kernel_rfl) (by kernel_rfl) (fun _ _ _ h => h) (Or.inl ⟨by rfl, ?hy85⟩) (by assumption) ?hR85
        case hy85 => (intro w hSw; (try dsimp only at hSw); go_simp; try rfl)
        simp only [Act.put, List.setIfInBounds_toArray, List.set_cons_zero, List.set_cons_succ]
        refine wpAnyH_done (by kernel_rfl) ?_ _
        go_wp2
        go_ret
        exact ⟨ret_int hr.out.symm, HB8⟩
end Go.Proofs.YthlpfefckhdpiaaGreatDoor
