/- Value -/
import Derived.Test.YtgopbldkhlmbnaaGreatDoorJOpts
namespace Go.Proofs.YtgopbldkhlmbnaaGreatDoor
open Go.RowKit Num
def FactP.num (f : FactP) (i : Nat) : FracP := if i = 4 then ⟨f.q, []⟩ else if i = 5 then ⟨f.amt, []⟩ else if i = 6 then ⟨f.fee, []⟩ else if i = 7 then f.price else if i = 8 then f.ratio else f.share
set_option maxHeartbeats 2000000 in
set_option maxRecDepth 100000 in
theorem value_4 (f : FactP) (pa oa : Option Addr) (pc oc : Nat) (w : World) :
    Calls Tryz.prog 99 #[.agg (f.cells pa pc oa oc), .int .i64 4] w fun e w' => e = .returned (f.num 4).agg ∧ Below w.heap.size w w' := by
  have KF := Lib.hid (Box.new0 w (f.cells pa pc oa oc) 36)
  unfold FactP.num FracP.agg
  obtain ⟨key, stamp, cancelled, day, kind, ins, other, cur, target, fq, amt, fee, price, ratio, share, picks, os, choice⟩ := f
  unfold FactP.cells at *
  dsimp only at *
  simp only [Nat.reduceEqDiff, if_true, if_false]
  have hix : ∀ (s0 s1 s2 s3 s4 s5 s6 s7 s8 : ByteArray) (W : World), (Instr.index 153 (.agg #[.string ⟨#[]⟩, .string ⟨#[]⟩, .string ⟨#[]⟩, .string ⟨#[]⟩, .string ⟨#[]⟩, .string ⟨#[]⟩, .string ⟨#[]⟩, .string ⟨#[]⟩, .string s0, .string ⟨#[]⟩, .string s1, .string ⟨#[]⟩, .string s2, .string ⟨#[]⟩, .string s3, .string s4, .string s5, .string s6, .string s7, .string s8, .string ⟨#[]⟩, .string ⟨#[]⟩, .string ⟨#[]⟩, .string ⟨#[]⟩, .string ⟨#[]⟩, .string ⟨#[]⟩]) (.int .i64 4)).run Tryz.prog W = .ok (.agg #[.string s0, .string ⟨#[]⟩]) W := fun _ _ _ _ _ _ _ _ _ _ => by kernel_rfl
  have KR0 := Lib.hid (Box.new0 (w.alloc (.cells #[.string ⟨key.toArray⟩, .int .i64 stamp, .bool cancelled, .int .i64 day, .int .i64 kind, .string ⟨ins.toArray⟩, .string ⟨other.toArray⟩, .string ⟨cur.toArray⟩, .string ⟨target.toArray⟩, .string ⟨fq.toArray⟩, .string ⟨amt.toArray⟩, .string ⟨fee.toArray⟩, .string ⟨price.n.toArray⟩, .string ⟨price.d.toArray⟩, .string ⟨ratio.n.toArray⟩, .string ⟨ratio.d.toArray⟩, .string ⟨share.n.toArray⟩, .string ⟨share.d.toArray⟩, .slice pa picks.length pc, .slice oa os.length oc, .int .i64 choice] 36)) #[.string ⟨#[]⟩, .string ⟨#[]⟩] 32)
  have BR0 := Lib.hid (((Below.refl w.heap.size w).alloc (Nat.le_refl _) (.cells #[.string ⟨key.toArray⟩, .int .i64 stamp, .bool cancelled, .int .i64 day, .int .i64 kind, .string ⟨ins.toArray⟩, .string ⟨other.toArray⟩, .string ⟨cur.toArray⟩, .string ⟨target.toArray⟩, .string ⟨fq.toArray⟩, .string ⟨amt.toArray⟩, .string ⟨fee.toArray⟩, .string ⟨price.n.toArray⟩, .string ⟨price.d.toArray⟩, .string ⟨ratio.n.toArray⟩, .string ⟨ratio.d.toArray⟩, .string ⟨share.n.toArray⟩, .string ⟨share.d.toArray⟩, .slice pa picks.length pc, .slice oa os.length oc, .int .i64 choice] 36)).alloc (by simp) (.cells #[.string ⟨#[]⟩, .string ⟨#[]⟩] 32))
  have KF2 := Lib.hid (KF.out.below (below_alloc _ (.cells #[.string ⟨#[]⟩, .string ⟨#[]⟩] 32)))
  rw [World.size_alloc] at KR0
  go_enter Tryz.func99, Tryz.ntmps99
  go_wp2_with fail
  have HBc := below_drewN BR0.out 1
  have KX : Box ((w.alloc (.cells #[.string ⟨key.toArray⟩, .int .i64 stamp, .bool cancelled, .int .i64 day, .int .i64 kind, .string ⟨ins.toArray⟩, .string ⟨other.toArray⟩, .string ⟨cur.toArray⟩, .string ⟨target.toArray⟩, .string ⟨fq.toArray⟩, .string ⟨amt.toArray⟩, .string ⟨fee.toArray⟩, .string ⟨price.n.toArray⟩, .string ⟨price.d.toArray⟩, .string ⟨ratio.n.toArray⟩, .string ⟨ratio.d.toArray⟩, .string ⟨share.n.toArray⟩, .string ⟨share.d.toArray⟩, .slice pa picks.length pc, .slice oa os.length oc, .int .i64 choice] 36)).alloc (.cells #[.string ⟨#[]⟩, .string ⟨#[]⟩] 32)).drew w.heap.size #[.string ⟨key.toArray⟩, .int .i64 stamp, .bool cancelled, .int .i64 day, .int .i64 kind, .string ⟨ins.toArray⟩, .string ⟨other.toArray⟩, .string ⟨cur.toArray⟩, .string ⟨target.toArray⟩, .string ⟨fq.toArray⟩, .string ⟨amt.toArray⟩, .string ⟨fee.toArray⟩, .string ⟨price.n.toArray⟩, .string ⟨price.d.toArray⟩, .string ⟨ratio.n.toArray⟩, .string ⟨ratio.d.toArray⟩, .string ⟨share.n.toArray⟩, .string ⟨share.d.toArray⟩, .slice pa picks.length pc, .slice oa os.length oc, .int .i64 choice] 36 := KF2.out
  have KR : Box ((w.alloc (.cells #[.string ⟨key.toArray⟩, .int .i64 stamp, .bool cancelled, .int .i64 day, .int .i64 kind, .string ⟨ins.toArray⟩, .string ⟨other.toArray⟩, .string ⟨cur.toArray⟩, .string ⟨target.toArray⟩, .string ⟨fq.toArray⟩, .string ⟨amt.toArray⟩, .string ⟨fee.toArray⟩, .string ⟨price.n.toArray⟩, .string ⟨price.d.toArray⟩, .string ⟨ratio.n.toArray⟩, .string ⟨ratio.d.toArray⟩, .string ⟨share.n.toArray⟩, .string ⟨share.d.toArray⟩, .slice pa picks.length pc, .slice oa os.length oc, .int .i64 choice] 36)).alloc (.cells #[.string ⟨#[]⟩, .string ⟨#[]⟩] 32)).drew (w.heap.size + 1) #[.string ⟨#[]⟩, .string ⟨#[]⟩] 32 := KR0.out
  refine wp_region_held_drew (S := fun W => W.cell? ⟨w.heap.size, 9, none⟩ = some (.string ⟨fq.toArray⟩) ∧ W.cell? ⟨w.heap.size, 10, none⟩ = some (.string ⟨amt.toArray⟩) ∧ W.cell? ⟨w.heap.size, 11, none⟩ = some (.string ⟨fee.toArray⟩) ∧ W.cell? ⟨w.heap.size, 12, none⟩ = some (.string ⟨price.n.toArray⟩) ∧ W.cell? ⟨w.heap.size, 13, none⟩ = some (.string ⟨price.d.toArray⟩) ∧ W.cell? ⟨w.heap.size, 14, none⟩ = some (.string ⟨ratio.n.toArray⟩) ∧ W.cell? ⟨w.heap.size, 15, none⟩ = some (.string ⟨ratio.d.toArray⟩) ∧ W.cell? ⟨w.heap.size, 16, none⟩ = some (.string ⟨share.n.toArray⟩) ∧ W.cell? ⟨w.heap.size, 17, none⟩ = some (.string ⟨share.d.toArray⟩)) (by kernel_rfl) ?hS1 (fun hHeld => ?hR1)
  case hS1 => exact ⟨KX.cell 9, KX.cell 10, KX.cell 11, KX.cell 12, KX.cell 13, KX.cell 14, KX.cell 15, KX.cell 16, KX.cell 17⟩
  refine take_op (i := 0) (some 5) (v := ?v2) rfl rfl (by kernel_rfl) (by kernel_rfl) (by kernel_rfl) (fun _ _ _ h => h) (Or.inl ⟨by rfl, ?hy2⟩) (by assumption) ?hR2
  case hy2 => (intro w hSw; (try dsimp only at hSw); go_simp; try rfl)
  simp only [Act.put, List.setIfInBounds_toArray, List.set_cons_zero, List.set_cons_succ]
  refine take_op (i := 1) (some 6) (v := ?v3) rfl rfl (by kernel_rfl) (by kernel_rfl) (by kernel_rfl) (fun _ _ _ h => h) (Or.inl ⟨by rfl, ?hy3⟩) (by assumption) ?hR3
  case hy3 => (intro w hSw; (try dsimp only at hSw); go_simp; try rfl)
  simp only [Act.put, List.setIfInBounds_toArray, List.set_cons_zero, List.set_cons_succ]
  refine take_op (i := 3) (some 8) (v := ?v4) rfl rfl (by kernel_rfl) (by kernel_rfl) (by kernel_rfl) (fun _ _ _ h => h) (Or.inl ⟨by rfl, ?hy4⟩) (by assumption) ?hR4
  case hy4 => (intro w hSw; (try dsimp only at hSw); go_simp; try rfl)
  simp only [Act.put, List.setIfInBounds_toArray, List.set_cons_zero, List.set_cons_succ]
  refine take_op (i := 4) (some 9) (v := ?v5) rfl rfl (by kernel_rfl) (by kernel_rfl) (by kernel_rfl) (fun _ _ _ h => h) (Or.inl ⟨by rfl, ?hy5⟩) (by assumption) ?hR5
  case hy5 => (intro w hSw; (try dsimp only at hSw); go_simp; try rfl)
  simp only [Act.put, List.setIfInBounds_toArray, List.set_cons_zero, List.set_cons_succ]
  refine take_op (i := 6) (some 11) (v := ?v6) rfl rfl (by kernel_rfl) (by kernel_rfl) (by kernel_rfl) (fun _ _ _ h => h) (Or.inl ⟨by rfl, ?hy6⟩) (by assumption) ?hR6
  case hy6 => (intro w hSw; (try dsimp only at hSw); go_simp; try rfl)
  simp only [Act.put, List.setIfInBounds_toArray, List.set_cons_zero, List.set_cons_succ]
  refine take_op (i := 7) (some 12) (v := ?v7) rfl rfl (by kernel_rfl) (by kernel_rfl) (by kernel_rfl) (fun _ _ _ h => h) (Or.inl ⟨by rfl, ?hy7⟩) (by assumption) ?hR7
  case hy7 => (intro w hSw; (try dsimp only at hSw); go_simp; try rfl)
  simp only [Act.put, List.setIfInBounds_toArray, List.set_cons_zero, List.set_cons_succ]
  refine take_op (i := 9) (some 14) (v := ?v8) rfl rfl (by kernel_rfl) (by kernel_rfl) (by kernel_rfl) (fun _ _ _ h => h) (Or.inl ⟨by rfl, ?hy8⟩) (by assumption) ?hR8
  case hy8 => (intro w hSw; (try dsimp only at hSw); go_simp; try rfl)
  simp only [Act.put, List.setIfInBounds_toArray, List.set_cons_zero, List.set_cons_succ]
  refine take_op (i := 10) (some 15) (v := ?v9) rfl rfl (by kernel_rfl) (by kernel_rfl) (by kernel_rfl) (fun _ _ _ h => h) (Or.inl ⟨by rfl, ?hy9⟩) (by assumption) ?hR9
  case hy9 => (intro w hSw; (try dsimp only at hSw); go_simp; try rfl)
  simp only [Act.put, List.setIfInBounds_toArray, List.set_cons_zero, List.set_cons_succ]
  refine take_op (i := 11) (some 16) (v := ?v10) rfl rfl (by kernel_rfl) (by kernel_rfl) (by kernel_rfl) (fun _ _ _ h => h) (Or.inl ⟨by rfl, ?hy10⟩) (by assumption) ?hR10
  case hy10 => (intro w hSw; (try dsimp only at hSw); go_simp; try rfl)
  simp only [Act.put, List.setIfInBounds_toArray, List.set_cons_zero, List.set_cons_succ]
  refine take_op (i := 12) (some 17) (v := ?v11) rfl rfl (by kernel_rfl) (by kernel_rfl) (by kernel_rfl) (fun _ _ _ h => h) (Or.inl ⟨by rfl, ?hy11⟩) (by assumption) ?hR11
  case hy11 => (intro w hSw; (try dsimp only at hSw); go_simp; try rfl)
  simp only [Act.put, List.setIfInBounds_toArray, List.set_cons_zero, List.set_cons_succ]
  refine take_op (i := 13) (some 18) (v := ?v12) rfl rfl (by kernel_rfl) (by kernel_rfl) (by kernel_rfl) (fun _ _ _ h => h) (Or.inl ⟨by rfl, ?hy12⟩) (by assumption) ?hR12
  case hy12 => (intro w hSw; (try dsimp only at hSw); go_simp; try rfl)
  simp only [Act.put, List.setIfInBounds_toArray, List.set_cons_zero, List.set_cons_succ]
  refine take_op (i := 14) (some 19) (v := ?v13) rfl rfl (by kernel_rfl) (by kernel_rfl) (by kernel_rfl) (fun _ _ _ h => h) (Or.inl ⟨by rfl, ?hy13⟩) (by assumption) ?hR13
  case hy13 => (intro w hSw; (try dsimp only at hSw); go_simp; try rfl)
  simp only [Act.put, List.setIfInBounds_toArray, List.set_cons_zero, List.set_cons_succ]
  refine take_op (i := 16) (some 21) (v := ?v14) rfl rfl (by kernel_rfl) (by kernel_rfl) (by kernel_rfl) (fun _ _ _ h => h) (Or.inl ⟨by rfl, ?hy14⟩) (by assumption) ?hR14
  case hy14 => (intro w hSw; (try dsimp only at hSw); go_simp; try rfl)
  simp only [Act.put, List.setIfInBounds_toArray, List.set_cons_zero, List.set_cons_succ]
  refine wpAnyH_ready (rs := [2]) (by kernel_rfl) (by simp) ?_
  refine AllReadyH.cons (o := _) rfl (fun K hK => ?hC15) AllReadyH.nil
  rw [if_pos (by rfl)]
  go_simp
  go_at_call 131
  refine (factWhole_any fq _).mono ?_
  rintro e wn ⟨rfl, hbn⟩
  replace HBc := below_up HBc hbn
  replace KX := KX.below hbn
  replace KR := KR.below hbn
  clear hbn
  go_wp2_with fail
  refine hK.out _ _ ?hS15 (fun hHeld => ?hR15)
  case hS15 => exact ⟨KX.cell 9, KX.cell 10, KX.cell 11, KX.cell 12, KX.cell 13, KX.cell 14, KX.cell 15, KX.cell 16, KX.cell 17⟩
  try simp only [Act.put, List.setIfInBounds_toArray, List.set_cons_zero, List.set_cons_succ]
  refine wpAnyH_ready (rs := [5]) (by kernel_rfl) (by simp) ?_
  refine AllReadyH.cons (o := _) rfl (fun K hK => ?hC16) AllReadyH.nil
  rw [if_pos (by rfl)]
  go_simp
  go_at_call 131
  refine (factWhole_any amt _).mono ?_
  rintro e wn ⟨rfl, hbn⟩
  replace HBc := below_up HBc hbn
  replace KX := KX.below hbn
  replace KR := KR.below hbn
  clear hbn
  go_wp2_with fail
  refine hK.out _ _ ?hS16 (fun hHeld => ?hR16)
  case hS16 => exact ⟨KX.cell 9, KX.cell 10, KX.cell 11, KX.cell 12, KX.cell 13, KX.cell 14, KX.cell 15, KX.cell 16, KX.cell 17⟩
  try simp only [Act.put, List.setIfInBounds_toArray, List.set_cons_zero, List.set_cons_succ]
  refine wpAnyH_ready (rs := [8]) (by kernel_rfl) (by simp) ?_
  refine AllReadyH.cons (o := _) rfl (fun K hK => ?hC17) AllReadyH.nil
  rw [if_pos (by rfl)]
  go_simp
  go_at_call 131
  refine (factWhole_any fee _).mono ?_
  rintro e wn ⟨rfl, hbn⟩
  replace HBc := below_up HBc hbn
  replace KX := KX.below hbn
  replace KR := KR.below hbn
  clear hbn
  go_wp2_with fail
  refine hK.out _ _ ?hS17 (fun hHeld => ?hR17)
  case hS17 => exact ⟨KX.cell 9, KX.cell 10, KX.cell 11, KX.cell 12, KX.cell 13, KX.cell 14, KX.cell 15, KX.cell 16, KX.cell 17⟩
  try simp only [Act.put, List.setIfInBounds_toArray, List.set_cons_zero, List.set_cons_succ]
  refine take_op (i := 15) (some 20) (v := ?v18) rfl rfl (by kernel_rfl) (by kernel_rfl) (by kernel_rfl) (fun _ _ _ h => h) (Or.inl ⟨by rfl, ?hy18⟩) (by assumption) ?hR18
  case hy18 => (intro w hSw; (try dsimp only at hSw); go_simp; try rfl)
  simp only [Act.put, List.setIfInBounds_toArray, List.set_cons_zero, List.set_cons_succ]
  refine take_op (i := 17) (some 22) (v := ?v19) rfl rfl (by kernel_rfl) (by kernel_rfl) (by kernel_rfl) (fun _ _ _ h => h) (Or.inl ⟨by rfl, ?hy19⟩) (by assumption) ?hR19
  case hy19 => (intro w hSw; (try dsimp only at hSw); go_simp; try rfl)
  simp only [Act.put, List.setIfInBounds_toArray, List.set_cons_zero, List.set_cons_succ]
  refine wpAnyH_ready (rs := [18]) (by kernel_rfl) (by simp) ?_
  refine AllReadyH.cons (o := _) rfl (fun K hK => ?hC20) AllReadyH.nil
  rw [if_pos (by rfl)]
  have r0 := KR.cell 0
  have r1 := KR.cell 1
  have g0 := frozen_at KR.2 0
  have g1 := frozen_at KR.2 1
  go_simp
  go_wp2_with fail
  refine hK.out _ _ ?hS20 (fun hHeld => ?hR20)
  case hS20 => exact ⟨(cell_two _ _ (by omega)).trans (KX.cell 9), (cell_two _ _ (by omega)).trans (KX.cell 10), (cell_two _ _ (by omega)).trans (KX.cell 11), (cell_two _ _ (by omega)).trans (KX.cell 12), (cell_two _ _ (by omega)).trans (KX.cell 13), (cell_two _ _ (by omega)).trans (KX.cell 14), (cell_two _ _ (by omega)).trans (KX.cell 15), (cell_two _ _ (by omega)).trans (KX.cell 16), (cell_two _ _ (by omega)).trans (KX.cell 17)⟩
  try simp only [Act.put, List.setIfInBounds_toArray, List.set_cons_zero, List.set_cons_succ]
  refine wpAnyH_done (by kernel_rfl) ?_ _
  go_wp2
  exact bodyPost_ret (v := .agg #[.string ⟨fq.toArray⟩, .string ⟨#[]⟩]) (by simp [results, Tryz.results99, go_sem, r0, r1]) rfl ⟨rfl, (HBc.setCell (p := ⟨w.heap.size + 1, 0, none⟩) (by show _ ≤ w.heap.size + 1; omega) _).setCell (p := ⟨w.heap.size + 1, 1, none⟩) (by show _ ≤ w.heap.size + 1; omega) _⟩
set_option maxHeartbeats 2000000 in
set_option maxRecDepth 100000 in
theorem value_5 (f : FactP) (pa oa : Option Addr) (pc oc : Nat) (w : World) :
    Calls Tryz.prog 99 #[.agg (f.cells pa pc oa oc), .int .i64 5] w fun e w' => e = .returned (f.num 5).agg ∧ Below w.heap.size w w' := by
  have KF := Lib.hid (Box.new0 w (f.cells pa pc oa oc) 36)
  unfold FactP.num FracP.agg
  obtain ⟨key, stamp, cancelled, day, kind, ins, other, cur, target, fq, amt, fee, price, ratio, share, picks, os, choice⟩ := f
  unfold FactP.cells at *
  dsimp only at *
  simp only [Nat.reduceEqDiff, if_true, if_false]
  have hix : ∀ (s0 s1 s2 s3 s4 s5 s6 s7 s8 : ByteArray) (W : World), (Instr.index 153 (.agg #[.string ⟨#[]⟩, .string ⟨#[]⟩, .string ⟨#[]⟩, .string ⟨#[]⟩, .string ⟨#[]⟩, .string ⟨#[]⟩, .string ⟨#[]⟩, .string ⟨#[]⟩, .string s0, .string ⟨#[]⟩, .string s1, .string ⟨#[]⟩, .string s2, .string ⟨#[]⟩, .string s3, .string s4, .string s5, .string s6, .string s7, .string s8, .string ⟨#[]⟩, .string ⟨#[]⟩, .string ⟨#[]⟩, .string ⟨#[]⟩, .string ⟨#[]⟩, .string ⟨#[]⟩]) (.int .i64 5)).run Tryz.prog W = .ok (.agg #[.string s1, .string ⟨#[]⟩]) W := fun _ _ _ _ _ _ _ _ _ _ => by kernel_rfl
  have KR0 := Lib.hid (Box.new0 (w.alloc (.cells #[.string ⟨key.toArray⟩, .int .i64 stamp, .bool cancelled, .int .i64 day, .int .i64 kind, .string ⟨ins.toArray⟩, .string ⟨other.toArray⟩, .string ⟨cur.toArray⟩, .string ⟨target.toArray⟩, .string ⟨fq.toArray⟩, .string ⟨amt.toArray⟩, .string ⟨fee.toArray⟩, .string ⟨price.n.toArray⟩, .string ⟨price.d.toArray⟩, .string ⟨ratio.n.toArray⟩, .string ⟨ratio.d.toArray⟩, .string ⟨share.n.toArray⟩, .string ⟨share.d.toArray⟩, .slice pa picks.length pc, .slice oa os.length oc, .int .i64 choice] 36)) #[.string ⟨#[]⟩, .string ⟨#[]⟩] 32)
  have BR0 := Lib.hid (((Below.refl w.heap.size w).alloc (Nat.le_refl _) (.cells #[.string ⟨key.toArray⟩, .int .i64 stamp, .bool cancelled, .int .i64 day, .int .i64 kind, .string ⟨ins.toArray⟩, .string ⟨other.toArray⟩, .string ⟨cur.toArray⟩, .string ⟨target.toArray⟩, .string ⟨fq.toArray⟩, .string ⟨amt.toArray⟩, .string ⟨fee.toArray⟩, .string ⟨price.n.toArray⟩, .string ⟨price.d.toArray⟩, .string ⟨ratio.n.toArray⟩, .string ⟨ratio.d.toArray⟩, .string ⟨share.n.toArray⟩, .string ⟨share.d.toArray⟩, .slice pa picks.length pc, .slice oa os.length oc, .int .i64 choice] 36)).alloc (by simp) (.cells #[.string ⟨#[]⟩, .string ⟨#[]⟩] 32))
  have KF2 := Lib.hid (KF.out.below (below_alloc _ (.cells #[.string ⟨#[]⟩, .string ⟨#[]⟩] 32)))
  rw [World.size_alloc] at KR0
  go_enter Tryz.func99, Tryz.ntmps99
  go_wp2_with fail
  have HBc := below_drewN BR0.out 1
  have KX : Box ((w.alloc (.cells #[.string ⟨key.toArray⟩, .int .i64 stamp, .bool cancelled, .int .i64 day, .int .i64 kind, .string ⟨ins.toArray⟩, .string ⟨other.toArray⟩, .string ⟨cur.toArray⟩, .string ⟨target.toArray⟩, .string ⟨fq.toArray⟩, .string ⟨amt.toArray⟩, .string ⟨fee.toArray⟩, .string ⟨price.n.toArray⟩, .string ⟨price.d.toArray⟩, .string ⟨ratio.n.toArray⟩, .string ⟨ratio.d.toArray⟩, .string ⟨share.n.toArray⟩, .string ⟨share.d.toArray⟩, .slice pa picks.length pc, .slice oa os.length oc, .int .i64 choice] 36)).alloc (.cells #[.string ⟨#[]⟩, .string ⟨#[]⟩] 32)).drew w.heap.size #[.string ⟨key.toArray⟩, .int .i64 stamp, .bool cancelled, .int .i64 day, .int .i64 kind, .string ⟨ins.toArray⟩, .string ⟨other.toArray⟩, .string ⟨cur.toArray⟩, .string ⟨target.toArray⟩, .string ⟨fq.toArray⟩, .string ⟨amt.toArray⟩, .string ⟨fee.toArray⟩, .string ⟨price.n.toArray⟩, .string ⟨price.d.toArray⟩, .string ⟨ratio.n.toArray⟩, .string ⟨ratio.d.toArray⟩, .string ⟨share.n.toArray⟩, .string ⟨share.d.toArray⟩, .slice pa picks.length pc, .slice oa os.length oc, .int .i64 choice] 36 := KF2.out
  have KR : Box ((w.alloc (.cells #[.string ⟨key.toArray⟩, .int .i64 stamp, .bool cancelled, .int .i64 day, .int .i64 kind, .string ⟨ins.toArray⟩, .string ⟨other.toArray⟩, .string ⟨cur.toArray⟩, .string ⟨target.toArray⟩, .string ⟨fq.toArray⟩, .string ⟨amt.toArray⟩, .string ⟨fee.toArray⟩, .string ⟨price.n.toArray⟩, .string ⟨price.d.toArray⟩, .string ⟨ratio.n.toArray⟩, .string ⟨ratio.d.toArray⟩, .string ⟨share.n.toArray⟩, .string ⟨share.d.toArray⟩, .slice pa picks.length pc, .slice oa os.length oc, .int .i64 choice] 36)).alloc (.cells #[.string ⟨#[]⟩, .string ⟨#[]⟩] 32)).drew (w.heap.size + 1) #[.string ⟨#[]⟩, .string ⟨#[]⟩] 32 := KR0.out
  refine wp_region_held_drew (S := fun W => W.cell? ⟨w.heap.size, 9, none⟩ = some (.string ⟨fq.toArray⟩) ∧ W.cell? ⟨w.heap.size, 10, none⟩ = some (.string ⟨amt.toArray⟩) ∧ W.cell? ⟨w.heap.size, 11, none⟩ = some (.string ⟨fee.toArray⟩) ∧ W.cell? ⟨w.heap.size, 12, none⟩ = some (.string ⟨price.n.toArray⟩) ∧ W.cell? ⟨w.heap.size, 13, none⟩ = some (.string ⟨price.d.toArray⟩) ∧ W.cell? ⟨w.heap.size, 14, none⟩ = some (.string ⟨ratio.n.toArray⟩) ∧ W.cell? ⟨w.heap.size, 15, none⟩ = some (.string ⟨ratio.d.toArray⟩) ∧ W.cell? ⟨w.heap.size, 16, none⟩ = some (.string ⟨share.n.toArray⟩) ∧ W.cell? ⟨w.heap.size, 17, none⟩ = some (.string ⟨share.d.toArray⟩)) (by kernel_rfl) ?hS21 (fun hHeld => ?hR21)
  case hS21 => exact ⟨KX.cell 9, KX.cell 10, KX.cell 11, KX.cell 12, KX.cell 13, KX.cell 14, KX.cell 15, KX.cell 16, KX.cell 17⟩
  refine take_op (i := 0) (some 5) (v := ?v22) rfl rfl (by kernel_rfl) (by kernel_rfl) (by kernel_rfl) (fun _ _ _ h => h) (Or.inl ⟨by rfl, ?hy22⟩) (by assumption) ?hR22
  case hy22 => (intro w hSw; (try dsimp only at hSw); go_simp; try rfl)
  simp only [Act.put, List.setIfInBounds_toArray, List.set_cons_zero, List.set_cons_succ]
  refine take_op (i := 1) (some 6) (v := ?v23) rfl rfl (by kernel_rfl) (by kernel_rfl) (by kernel_rfl) (fun _ _ _ h => h) (Or.inl ⟨by rfl, ?hy23⟩) (by assumption) ?hR23
  case hy23 => (intro w hSw; (try dsimp only at hSw); go_simp; try rfl)
  simp only [Act.put, List.setIfInBounds_toArray, List.set_cons_zero, List.set_cons_succ]
  refine take_op (i := 3) (some 8) (v := ?v24) rfl rfl (by kernel_rfl) (by kernel_rfl) (by kernel_rfl) (fun _ _ _ h => h) (Or.inl ⟨by rfl, ?hy24⟩) (by assumption) ?hR24
  case hy24 => (intro w hSw; (try dsimp only at hSw); go_simp; try rfl)
  simp only [Act.put, List.setIfInBounds_toArray, List.set_cons_zero, List.set_cons_succ]
  refine take_op (i := 4) (some 9) (v := ?v25) rfl rfl (by kernel_rfl) (by kernel_rfl) (by kernel_rfl) (fun _ _ _ h => h) (Or.inl ⟨by rfl, ?hy25⟩) (by assumption) ?hR25
  case hy25 => (intro w hSw; (try dsimp only at hSw); go_simp; try rfl)
  simp only [Act.put, List.setIfInBounds_toArray, List.set_cons_zero, List.set_cons_succ]
  refine take_op (i := 6) (some 11) (v := ?v26) rfl rfl (by kernel_rfl) (by kernel_rfl) (by kernel_rfl) (fun _ _ _ h => h) (Or.inl ⟨by rfl, ?hy26⟩) (by assumption) ?hR26
  case hy26 => (intro w hSw; (try dsimp only at hSw); go_simp; try rfl)
  simp only [Act.put, List.setIfInBounds_toArray, List.set_cons_zero, List.set_cons_succ]
  refine take_op (i := 7) (some 12) (v := ?v27) rfl rfl (by kernel_rfl) (by kernel_rfl) (by kernel_rfl) (fun _ _ _ h => h) (Or.inl ⟨by rfl, ?hy27⟩) (by assumption) ?hR27
  case hy27 => (intro w hSw; (try dsimp only at hSw); go_simp; try rfl)
  simp only [Act.put, List.setIfInBounds_toArray, List.set_cons_zero, List.set_cons_succ]
  refine take_op (i := 9) (some 14) (v := ?v28) rfl rfl (by kernel_rfl) (by kernel_rfl) (by kernel_rfl) (fun _ _ _ h => h) (Or.inl ⟨by rfl, ?hy28⟩) (by assumption) ?hR28
  case hy28 => (intro w hSw; (try dsimp only at hSw); go_simp; try rfl)
  simp only [Act.put, List.setIfInBounds_toArray, List.set_cons_zero, List.set_cons_succ]
  refine take_op (i := 10) (some 15) (v := ?v29) rfl rfl (by kernel_rfl) (by kernel_rfl) (by kernel_rfl) (fun _ _ _ h => h) (Or.inl ⟨by rfl, ?hy29⟩) (by assumption) ?hR29
  case hy29 => (intro w hSw; (try dsimp only at hSw); go_simp; try rfl)
  simp only [Act.put, List.setIfInBounds_toArray, List.set_cons_zero, List.set_cons_succ]
  refine take_op (i := 11) (some 16) (v := ?v30) rfl rfl (by kernel_rfl) (by kernel_rfl) (by kernel_rfl) (fun _ _ _ h => h) (Or.inl ⟨by rfl, ?hy30⟩) (by assumption) ?hR30
  case hy30 => (intro w hSw; (try dsimp only at hSw); go_simp; try rfl)
  simp only [Act.put, List.setIfInBounds_toArray, List.set_cons_zero, List.set_cons_succ]
  refine take_op (i := 12) (some 17) (v := ?v31) rfl rfl (by kernel_rfl) (by kernel_rfl) (by kernel_rfl) (fun _ _ _ h => h) (Or.inl ⟨by rfl, ?hy31⟩) (by assumption) ?hR31
  case hy31 => (intro w hSw; (try dsimp only at hSw); go_simp; try rfl)
  simp only [Act.put, List.setIfInBounds_toArray, List.set_cons_zero, List.set_cons_succ]
  refine take_op (i := 13) (some 18) (v := ?v32) rfl rfl (by kernel_rfl) (by kernel_rfl) (by kernel_rfl) (fun _ _ _ h => h) (Or.inl ⟨by rfl, ?hy32⟩) (by assumption) ?hR32
  case hy32 => (intro w hSw; (try dsimp only at hSw); go_simp; try rfl)
  simp only [Act.put, List.setIfInBounds_toArray, List.set_cons_zero, List.set_cons_succ]
  refine take_op (i := 14) (some 19) (v := ?v33) rfl rfl (by kernel_rfl) (by kernel_rfl) (by kernel_rfl) (fun _ _ _ h => h) (Or.inl ⟨by rfl, ?hy33⟩) (by assumption) ?hR33
  case hy33 => (intro w hSw; (try dsimp only at hSw); go_simp; try rfl)
  simp only [Act.put, List.setIfInBounds_toArray, List.set_cons_zero, List.set_cons_succ]
  refine take_op (i := 16) (some 21) (v := ?v34) rfl rfl (by kernel_rfl) (by kernel_rfl) (by kernel_rfl) (fun _ _ _ h => h) (Or.inl ⟨by rfl, ?hy34⟩) (by assumption) ?hR34
  case hy34 => (intro w hSw; (try dsimp only at hSw); go_simp; try rfl)
  simp only [Act.put, List.setIfInBounds_toArray, List.set_cons_zero, List.set_cons_succ]
  refine wpAnyH_ready (rs := [2]) (by kernel_rfl) (by simp) ?_
  refine AllReadyH.cons (o := _) rfl (fun K hK => ?hC35) AllReadyH.nil
  rw [if_pos (by rfl)]
  go_simp
  go_at_call 131
  refine (factWhole_any fq _).mono ?_
  rintro e wn ⟨rfl, hbn⟩
  replace HBc := below_up HBc hbn
  replace KX := KX.below hbn
  replace KR := KR.below hbn
  clear hbn
  go_wp2_with fail
  refine hK.out _ _ ?hS35 (fun hHeld => ?hR35)
  case hS35 => exact ⟨KX.cell 9, KX.cell 10, KX.cell 11, KX.cell 12, KX.cell 13, KX.cell 14, KX.cell 15, KX.cell 16, KX.cell 17⟩
  try simp only [Act.put, List.setIfInBounds_toArray, List.set_cons_zero, List.set_cons_succ]
  refine wpAnyH_ready (rs := [5]) (by kernel_rfl) (by simp) ?_
  refine AllReadyH.cons (o := _) rfl (fun K hK => ?hC36) AllReadyH.nil
  rw [if_pos (by rfl)]
  go_simp
  go_at_call 131
  refine (factWhole_any amt _).mono ?_
  rintro e wn ⟨rfl, hbn⟩
  replace HBc := below_up HBc hbn
  replace KX := KX.below hbn
  replace KR := KR.below hbn
  clear hbn
  go_wp2_with fail
  refine hK.out _ _ ?hS36 (fun hHeld => ?hR36)
  case hS36 => exact ⟨KX.cell 9, KX.cell 10, KX.cell 11, KX.cell 12, KX.cell 13, KX.cell 14, KX.cell 15, KX.cell 16, KX.cell 17⟩
  try simp only [Act.put, List.setIfInBounds_toArray, List.set_cons_zero, List.set_cons_succ]
  refine wpAnyH_ready (rs := [8]) (by kernel_rfl) (by simp) ?_
  refine AllReadyH.cons (o := _) rfl (fun K hK => ?hC37) AllReadyH.nil
  rw [if_pos (by rfl)]
  go_simp
  go_at_call 131
  refine (factWhole_any fee _).mono ?_
  rintro e wn ⟨rfl, hbn⟩
  replace HBc := below_up HBc hbn
  replace KX := KX.below hbn
  replace KR := KR.below hbn
  clear hbn
  go_wp2_with fail
  refine hK.out _ _ ?hS37 (fun hHeld => ?hR37)
  case hS37 => exact ⟨KX.cell 9, KX.cell 10, KX.cell 11, KX.cell 12, KX.cell 13, KX.cell 14, KX.cell 15, KX.cell 16, KX.cell 17⟩
  try simp only [Act.put, List.setIfInBounds_toArray, List.set_cons_zero, List.set_cons_succ]
  refine take_op (i := 15) (some 20) (v := ?v38) rfl rfl (by kernel_rfl) (by kernel_rfl) (by kernel_rfl) (fun _ _ _ h => h) (Or.inl ⟨by rfl, ?hy38⟩) (by assumption) ?hR38
  case hy38 => (intro w hSw; (try dsimp only at hSw); go_simp; try rfl)
  simp only [Act.put, List.setIfInBounds_toArray, List.set_cons_zero, List.set_cons_succ]
  refine take_op (i := 17) (some 22) (v := ?v39) rfl rfl (by kernel_rfl) (by kernel_rfl) (by kernel_rfl) (fun _ _ _ h => h) (Or.inl ⟨by rfl, ?hy39⟩) (by assumption) ?hR39
  case hy39 => (intro w hSw; (try dsimp only at hSw); go_simp; try rfl)
  simp only [Act.put, List.setIfInBounds_toArray, List.set_cons_zero, List.set_cons_succ]
  refine wpAnyH_ready (rs := [18]) (by kernel_rfl) (by simp) ?_
  refine AllReadyH.cons (o := _) rfl (fun K hK => ?hC40) AllReadyH.nil
  rw [if_pos (by rfl)]
  have r0 := KR.cell 0
  have r1 := KR.cell 1
  have g0 := frozen_at KR.2 0
  have g1 := frozen_at KR.2 1
  go_simp
  go_wp2_with fail
  refine hK.out _ _ ?hS40 (fun hHeld => ?hR40)
  case hS40 => exact ⟨(cell_two _ _ (by omega)).trans (KX.cell 9), (cell_two _ _ (by omega)).trans (KX.cell 10), (cell_two _ _ (by omega)).trans (KX.cell 11), (cell_two _ _ (by omega)).trans (KX.cell 12), (cell_two _ _ (by omega)).trans (KX.cell 13), (cell_two _ _ (by omega)).trans (KX.cell 14), (cell_two _ _ (by omega)).trans (KX.cell 15), (cell_two _ _ (by omega)).trans (KX.cell 16), (cell_two _ _ (by omega)).trans (KX.cell 17)⟩
  try simp only [Act.put, List.setIfInBounds_toArray, List.set_cons_zero, List.set_cons_succ]
  refine wpAnyH_done (by kernel_rfl) ?_ _
  go_wp2
  exact bodyPost_ret (v := .agg #[.string ⟨amt.toArray⟩, .string ⟨#[]⟩]) (by simp [results, Tryz.results99, go_sem, r0, r1]) rfl ⟨rfl, (HBc.setCell (p := ⟨w.heap.size + 1, 0, none⟩) (by show _ ≤ w.heap.size + 1; omega) _).setCell (p := ⟨w.heap.size + 1, 1, none⟩) (by show _ ≤ w.heap.size + 1; omega) _⟩
set_option maxHeartbeats 2000000 in
set_option maxRecDepth 100000 in
theorem value_6 (f : FactP) (pa oa : Option Addr) (pc oc : Nat) (w : World) :
    Calls Tryz.prog 99 #[.agg (f.cells pa pc oa oc), .int .i64 6] w fun e w' => e = .returned (f.num 6).agg ∧ Below w.heap.size w w' := by
  have KF := Lib.hid (Box.new0 w (f.cells pa pc oa oc) 36)
  unfold FactP.num FracP.agg
  obtain ⟨key, stamp, cancelled, day, kind, ins, other, cur, target, fq, amt, fee, price, ratio, share, picks, os, choice⟩ := f
  unfold FactP.cells at *
  dsimp only at *
  simp only [Nat.reduceEqDiff, if_true, if_false]
  have hix : ∀ (s0 s1 s2 s3 s4 s5 s6 s7 s8 : ByteArray) (W : World), (Instr.index 153 (.agg #[.string ⟨#[]⟩, .string ⟨#[]⟩, .string ⟨#[]⟩, .string ⟨#[]⟩, .string ⟨#[]⟩, .string ⟨#[]⟩, .string ⟨#[]⟩, .string ⟨#[]⟩, .string s0, .string ⟨#[]⟩, .string s1, .string ⟨#[]⟩, .string s2, .string ⟨#[]⟩, .string s3, .string s4, .string s5, .string s6, .string s7, .string s8, .string ⟨#[]⟩, .string ⟨#[]⟩, .string ⟨#[]⟩, .string ⟨#[]⟩, .string ⟨#[]⟩, .string ⟨#[]⟩]) (.int .i64 6)).run Tryz.prog W = .ok (.agg #[.string s2, .string ⟨#[]⟩]) W := fun _ _ _ _ _ _ _ _ _ _ => by kernel_rfl
  have KR0 := Lib.hid (Box.new0 (w.alloc (.cells #[.string ⟨key.toArray⟩, .int .i64 stamp, .bool cancelled, .int .i64 day, .int .i64 kind, .string ⟨ins.toArray⟩, .string ⟨other.toArray⟩, .string ⟨cur.toArray⟩, .string ⟨target.toArray⟩, .string ⟨fq.toArray⟩, .string ⟨amt.toArray⟩, .string ⟨fee.toArray⟩, .string ⟨price.n.toArray⟩, .string ⟨price.d.toArray⟩, .string ⟨ratio.n.toArray⟩, .string ⟨ratio.d.toArray⟩, .string ⟨share.n.toArray⟩, .string ⟨share.d.toArray⟩, .slice pa picks.length pc, .slice oa os.length oc, .int .i64 choice] 36)) #[.string ⟨#[]⟩, .string ⟨#[]⟩] 32)
  have BR0 := Lib.hid (((Below.refl w.heap.size w).alloc (Nat.le_refl _) (.cells #[.string ⟨key.toArray⟩, .int .i64 stamp, .bool cancelled, .int .i64 day, .int .i64 kind, .string ⟨ins.toArray⟩, .string ⟨other.toArray⟩, .string ⟨cur.toArray⟩, .string ⟨target.toArray⟩, .string ⟨fq.toArray⟩, .string ⟨amt.toArray⟩, .string ⟨fee.toArray⟩, .string ⟨price.n.toArray⟩, .string ⟨price.d.toArray⟩, .string ⟨ratio.n.toArray⟩, .string ⟨ratio.d.toArray⟩, .string ⟨share.n.toArray⟩, .string ⟨share.d.toArray⟩, .slice pa picks.length pc, .slice oa os.length oc, .int .i64 choice] 36)).alloc (by simp) (.cells #[.string ⟨#[]⟩, .string ⟨#[]⟩] 32))
  have KF2 := Lib.hid (KF.out.below (below_alloc _ (.cells #[.string ⟨#[]⟩, .string ⟨#[]⟩] 32)))
  rw [World.size_alloc] at KR0
  go_enter Tryz.func99, Tryz.ntmps99
  go_wp2_with fail
  have HBc := below_drewN BR0.out 1
  have KX : Box ((w.alloc (.cells #[.string ⟨key.toArray⟩, .int .i64 stamp, .bool cancelled, .int .i64 day, .int .i64 kind, .string ⟨ins.toArray⟩, .string ⟨other.toArray⟩, .string ⟨cur.toArray⟩, .string ⟨target.toArray⟩, .string ⟨fq.toArray⟩, .string ⟨amt.toArray⟩, .string ⟨fee.toArray⟩, .string ⟨price.n.toArray⟩, .string ⟨price.d.toArray⟩, .string ⟨ratio.n.toArray⟩, .string ⟨ratio.d.toArray⟩, .string ⟨share.n.toArray⟩, .string ⟨share.d.toArray⟩, .slice pa picks.length pc, .slice oa os.length oc, .int .i64 choice] 36)).alloc (.cells #[.string ⟨#[]⟩, .string ⟨#[]⟩] 32)).drew w.heap.size #[.string ⟨key.toArray⟩, .int .i64 stamp, .bool cancelled, .int .i64 day, .int .i64 kind, .string ⟨ins.toArray⟩, .string ⟨other.toArray⟩, .string ⟨cur.toArray⟩, .string ⟨target.toArray⟩, .string ⟨fq.toArray⟩, .string ⟨amt.toArray⟩, .string ⟨fee.toArray⟩, .string ⟨price.n.toArray⟩, .string ⟨price.d.toArray⟩, .string ⟨ratio.n.toArray⟩, .string ⟨ratio.d.toArray⟩, .string ⟨share.n.toArray⟩, .string ⟨share.d.toArray⟩, .slice pa picks.length pc, .slice oa os.length oc, .int .i64 choice] 36 := KF2.out
  have KR : Box ((w.alloc (.cells #[.string ⟨key.toArray⟩, .int .i64 stamp, .bool cancelled, .int .i64 day, .int .i64 kind, .string ⟨ins.toArray⟩, .string ⟨other.toArray⟩, .string ⟨cur.toArray⟩, .string ⟨target.toArray⟩, .string ⟨fq.toArray⟩, .string ⟨amt.toArray⟩, .string ⟨fee.toArray⟩, .string ⟨price.n.toArray⟩, .string ⟨price.d.toArray⟩, .string ⟨ratio.n.toArray⟩, .string ⟨ratio.d.toArray⟩, .string ⟨share.n.toArray⟩, .string ⟨share.d.toArray⟩, .slice pa picks.length pc, .slice oa os.length oc, .int .i64 choice] 36)).alloc (.cells #[.string ⟨#[]⟩, .string ⟨#[]⟩] 32)).drew (w.heap.size + 1) #[.string ⟨#[]⟩, .string ⟨#[]⟩] 32 := KR0.out
  refine wp_region_held_drew (S := fun W => W.cell? ⟨w.heap.size, 9, none⟩ = some (.string ⟨fq.toArray⟩) ∧ W.cell? ⟨w.heap.size, 10, none⟩ = some (.string ⟨amt.toArray⟩) ∧ W.cell? ⟨w.heap.size, 11, none⟩ = some (.string ⟨fee.toArray⟩) ∧ W.cell? ⟨w.heap.size, 12, none⟩ = some (.string ⟨price.n.toArray⟩) ∧ W.cell? ⟨w.heap.size, 13, none⟩ = some (.string ⟨price.d.toArray⟩) ∧ W.cell? ⟨w.heap.size, 14, none⟩ = some (.string ⟨ratio.n.toArray⟩) ∧ W.cell? ⟨w.heap.size, 15, none⟩ = some (.string ⟨ratio.d.toArray⟩) ∧ W.cell? ⟨w.heap.size, 16, none⟩ = some (.string ⟨share.n.toArray⟩) ∧ W.cell? ⟨w.heap.size, 17, none⟩ = some (.string ⟨share.d.toArray⟩)) (by kernel_rfl) ?hS41 (fun hHeld => ?hR41)
  case hS41 => exact ⟨KX.cell 9, KX.cell 10, KX.cell 11, KX.cell 12, KX.cell 13, KX.cell 14, KX.cell 15, KX.cell 16, KX.cell 17⟩
  refine take_op (i := 0) (some 5) (v := ?v42) rfl rfl (by kernel_rfl) (by kernel_rfl) (by kernel_rfl) (fun _ _ _ h => h) (Or.inl ⟨by rfl, ?hy42⟩) (by assumption) ?hR42
  case hy42 => (intro w hSw; (try dsimp only at hSw); go_simp; try rfl)
  simp only [Act.put, List.setIfInBounds_toArray, List.set_cons_zero, List.set_cons_succ]
  refine take_op (i := 1) (some 6) (v := ?v43) rfl rfl (by kernel_rfl) (by kernel_rfl) (by kernel_rfl) (fun _ _ _ h => h) (Or.inl ⟨by rfl, ?hy43⟩) (by assumption) ?hR43
  case hy43 => (intro w hSw; (try dsimp only at hSw); go_simp; try rfl)
  simp only [Act.put, List.setIfInBounds_toArray, List.set_cons_zero, List.set_cons_succ]
  refine take_op (i := 3) (some 8) (v := ?v44) rfl rfl (by kernel_rfl) (by kernel_rfl) (by kernel_rfl) (fun _ _ _ h => h) (Or.inl ⟨by rfl, ?hy44⟩) (by assumption) ?hR44
  case hy44 => (intro w hSw; (try dsimp only at hSw); go_simp; try rfl)
  simp only [Act.put, List.setIfInBounds_toArray, List.set_cons_zero, List.set_cons_succ]
  refine take_op (i := 4) (some 9) (v := ?v45) rfl rfl (by kernel_rfl) (by kernel_rfl) (by kernel_rfl) (fun _ _ _ h => h) (Or.inl ⟨by rfl, ?hy45⟩) (by assumption) ?hR45
  case hy45 => (intro w hSw; (try dsimp only at hSw); go_simp; try rfl)
  simp only [Act.put, List.setIfInBounds_toArray, List.set_cons_zero, List.set_cons_succ]
  refine take_op (i := 6) (some 11) (v := ?v46) rfl rfl (by kernel_rfl) (by kernel_rfl) (by kernel_rfl) (fun _ _ _ h => h) (Or.inl ⟨by rfl, ?hy46⟩) (by assumption) ?hR46
  case hy46 => (intro w hSw; (try dsimp only at hSw); go_simp; try rfl)
  simp only [Act.put, List.setIfInBounds_toArray, List.set_cons_zero, List.set_cons_succ]
  refine take_op (i := 7) (some 12) (v := ?v47) rfl rfl (by kernel_rfl) (by kernel_rfl) (by kernel_rfl) (fun _ _ _ h => h) (Or.inl ⟨by rfl, ?hy47⟩) (by assumption) ?hR47
  case hy47 => (intro w hSw; (try dsimp only at hSw); go_simp; try rfl)
  simp only [Act.put, List.setIfInBounds_toArray, List.set_cons_zero, List.set_cons_succ]
  refine take_op (i := 9) (some 14) (v := ?v48) rfl rfl (by kernel_rfl) (by kernel_rfl) (by kernel_rfl) (fun _ _ _ h => h) (Or.inl ⟨by rfl, ?hy48⟩) (by assumption) ?hR48
  case hy48 => (intro w hSw; (try dsimp only at hSw); go_simp; try rfl)
  simp only [Act.put, List.setIfInBounds_toArray, List.set_cons_zero, List.set_cons_succ]
  refine take_op (i := 10) (some 15) (v := ?v49) rfl rfl (by kernel_rfl) (by kernel_rfl) (by kernel_rfl) (fun _ _ _ h => h) (Or.inl ⟨by rfl, ?hy49⟩) (by assumption) ?hR49
  case hy49 => (intro w hSw; (try dsimp only at hSw); go_simp; try rfl)
  simp only [Act.put, List.setIfInBounds_toArray, List.set_cons_zero, List.set_cons_succ]
  refine take_op (i := 11) (some 16) (v := ?v50) rfl rfl (by kernel_rfl) (by kernel_rfl) (by kernel_rfl) (fun _ _ _ h => h) (Or.inl ⟨by rfl, ?hy50⟩) (by assumption) ?hR50
  case hy50 => (intro w hSw; (try dsimp only at hSw); go_simp; try rfl)
  simp only [Act.put, List.setIfInBounds_toArray, List.set_cons_zero, List.set_cons_succ]
  refine take_op (i := 12) (some 17) (v := ?v51) rfl rfl (by kernel_rfl) (by kernel_rfl) (by kernel_rfl) (fun _ _ _ h => h) (Or.inl ⟨by rfl, ?hy51⟩) (by assumption) ?hR51
  case hy51 => (intro w hSw; (try dsimp only at hSw); go_simp; try rfl)
  simp only [Act.put, List.setIfInBounds_toArray, List.set_cons_zero, List.set_cons_succ]
  refine take_op (i := 13) (some 18) (v := ?v52) rfl rfl (by kernel_rfl) (by kernel_rfl) (by kernel_rfl) (fun _ _ _ h => h) (Or.inl ⟨by rfl, ?hy52⟩) (by assumption) ?hR52
  case hy52 => (intro w hSw; (try dsimp only at hSw); go_simp; try rfl)
  simp only [Act.put, List.setIfInBounds_toArray, List.set_cons_zero, List.set_cons_succ]
  refine take_op (i := 14) (some 19) (v := ?v53) rfl rfl (by kernel_rfl) (by kernel_rfl) (by kernel_rfl) (fun _ _ _ h => h) (Or.inl ⟨by rfl, ?hy53⟩) (by assumption) ?hR53
  case hy53 => (intro w hSw; (try dsimp only at hSw); go_simp; try rfl)
  simp only [Act.put, List.setIfInBounds_toArray, List.set_cons_zero, List.set_cons_succ]
  refine take_op (i := 16) (some 21) (v := ?v54) rfl rfl (by kernel_rfl) (by kernel_rfl) (by kernel_rfl) (fun _ _ _ h => h) (Or.inl ⟨by rfl, ?hy54⟩) (by assumption) ?hR54
  case hy54 => (intro w hSw; (try dsimp only at hSw); go_simp; try rfl)
  simp only [Act.put, List.setIfInBounds_toArray, List.set_cons_zero, List.set_cons_succ]
  refine wpAnyH_ready (rs := [2]) (by kernel_rfl) (by simp) ?_
  refine AllReadyH.cons (o := _) rfl (fun K hK => ?hC55) AllReadyH.nil
  rw [if_pos (by rfl)]
  go_simp
  go_at_call 131
  refine (factWhole_any fq _).mono ?_
  rintro e wn ⟨rfl, hbn⟩
  replace HBc := below_up HBc hbn
  replace KX := KX.below hbn
  replace KR := KR.below hbn
  clear hbn
  go_wp2_with fail
  refine hK.out _ _ ?hS55 (fun hHeld => ?hR55)
  case hS55 => exact ⟨KX.cell 9, KX.cell 10, KX.cell 11, KX.cell 12, KX.cell 13, KX.cell 14, KX.cell 15, KX.cell 16, KX.cell 17⟩
  try simp only [Act.put, List.setIfInBounds_toArray, List.set_cons_zero, List.set_cons_succ]
  refine wpAnyH_ready (rs := [5]) (by kernel_rfl) (by simp) ?_
  refine AllReadyH.cons (o := _) rfl (fun K hK => ?hC56) AllReadyH.nil
  rw [if_pos (by rfl)]
  go_simp
  go_at_call 131
  refine (factWhole_any amt _).mono ?_
  rintro e wn ⟨rfl, hbn⟩
  replace HBc := below_up HBc hbn
  replace KX := KX.below hbn
  replace KR := KR.below hbn
  clear hbn
  go_wp2_with fail
  refine hK.out _ _ ?hS56 (fun hHeld => ?hR56)
  case hS56 => exact ⟨KX.cell 9, KX.cell 10, KX.cell 11, KX.cell 12, KX.cell 13, KX.cell 14, KX.cell 15, KX.cell 16, KX.cell 17⟩
  try simp only [Act.put, List.setIfInBounds_toArray, List.set_cons_zero, List.set_cons_succ]
  refine wpAnyH_ready (rs := [8]) (by kernel_rfl) (by simp) ?_
  refine AllReadyH.cons (o := _) rfl (fun K hK => ?hC57) AllReadyH.nil
  rw [if_pos (by rfl)]
  go_simp
  go_at_call 131
  refine (factWhole_any fee _).mono ?_
  rintro e wn ⟨rfl, hbn⟩
  replace HBc := below_up HBc hbn
  replace KX := KX.below hbn
  replace KR := KR.below hbn
  clear hbn
  go_wp2_with fail
  refine hK.out _ _ ?hS57 (fun hHeld => ?hR57)
  case hS57 => exact ⟨KX.cell 9, KX.cell 10, KX.cell 11, KX.cell 12, KX.cell 13, KX.cell 14, KX.cell 15, KX.cell 16, KX.cell 17⟩
  try simp only [Act.put, List.setIfInBounds_toArray, List.set_cons_zero, List.set_cons_succ]
  refine take_op (i := 15) (some 20) (v := ?v58) rfl rfl (by kernel_rfl) (by kernel_rfl) (by kernel_rfl) (fun _ _ _ h => h) (Or.inl ⟨by rfl, ?hy58⟩) (by assumption) ?hR58
  case hy58 => (intro w hSw; (try dsimp only at hSw); go_simp; try rfl)
  simp only [Act.put, List.setIfInBounds_toArray, List.set_cons_zero, List.set_cons_succ]
  refine take_op (i := 17) (some 22) (v := ?v59) rfl rfl (by kernel_rfl) (by kernel_rfl) (by kernel_rfl) (fun _ _ _ h => h) (Or.inl ⟨by rfl, ?hy59⟩) (by assumption) ?hR59
  case hy59 => (intro w hSw; (try dsimp only at hSw); go_simp; try rfl)
  simp only [Act.put, List.setIfInBounds_toArray, List.set_cons_zero, List.set_cons_succ]
  refine wpAnyH_ready (rs := [18]) (by kernel_rfl) (by simp) ?_
  refine AllReadyH.cons (o := _) rfl (fun K hK => ?hC60) AllReadyH.nil
  rw [if_pos (by rfl)]
  have r0 := KR.cell 0
  have r1 := KR.cell 1
  have g0 := frozen_at KR.2 0
  have g1 := frozen_at KR.2 1
  go_simp
  go_wp2_with fail
  refine hK.out _ _ ?hS60 (fun hHeld => ?hR60)
  case hS60 => exact ⟨(cell_two _ _ (by omega)).trans (KX.cell 9), (cell_two _ _ (by omega)).trans (KX.cell 10), (cell_two _ _ (by omega)).trans (KX.cell 11), (cell_two _ _ (by omega)).trans (KX.cell 12), (cell_two _ _ (by omega)).trans (KX.cell 13), (cell_two _ _ (by omega)).trans (KX.cell 14), (cell_two _ _ (by omega)).trans (KX.cell 15), (cell_two _ _ (by omega)).trans (KX.cell 16), (cell_two _ _ (by omega)).trans (KX.cell 17)⟩
  try simp only [Act.put, List.setIfInBounds_toArray, List.set_cons_zero, List.set_cons_succ]
  refine wpAnyH_done (by kernel_rfl) ?_ _
  go_wp2
  exact bodyPost_ret (v := .agg #[.string ⟨fee.toArray⟩, .string ⟨#[]⟩]) (by simp [results, Tryz.results99, go_sem, r0, r1]) rfl ⟨rfl, (HBc.setCell (p := ⟨w.heap.size + 1, 0, none⟩) (by show _ ≤ w.heap.size + 1; omega) _).setCell (p := ⟨w.heap.size + 1, 1, none⟩) (by show _ ≤ w.heap.size + 1; omega) _⟩
set_option maxHeartbeats 2000000 in
set_option maxRecDepth 100000 in
theorem value_7 (f : FactP) (pa oa : Option Addr) (pc oc : Nat) (w : World) :
    Calls Tryz.prog 99 #[.agg (f.cells pa pc oa oc), .int .i64 7] w fun e w' => e = .returned (f.num 7).agg ∧ Below w.heap.size w w' := by
  have KF := Lib.hid (Box.new0 w (f.cells pa pc oa oc) 36)
  unfold FactP.num FracP.agg
  obtain ⟨key, stamp, cancelled, day, kind, ins, other, cur, target, fq, amt, fee, price, ratio, share, picks, os, choice⟩ := f
  unfold FactP.cells at *
  dsimp only at *
  simp only [Nat.reduceEqDiff, if_true, if_false]
  have hix : ∀ (s0 s1 s2 s3 s4 s5 s6 s7 s8 : ByteArray) (W : World), (Instr.index 153 (.agg #[.string ⟨#[]⟩, .string ⟨#[]⟩, .string ⟨#[]⟩, .string ⟨#[]⟩, .string ⟨#[]⟩, .string ⟨#[]⟩, .string ⟨#[]⟩, .string ⟨#[]⟩, .string s0, .string ⟨#[]⟩, .string s1, .string ⟨#[]⟩, .string s2, .string ⟨#[]⟩, .string s3, .string s4, .string s5, .string s6, .string s7, .string s8, .string ⟨#[]⟩, .string ⟨#[]⟩, .string ⟨#[]⟩, .string ⟨#[]⟩, .string ⟨#[]⟩, .string ⟨#[]⟩]) (.int .i64 7)).run Tryz.prog W = .ok (.agg #[.string s3, .string s4]) W := fun _ _ _ _ _ _ _ _ _ _ => by kernel_rfl
  have KR0 := Lib.hid (Box.new0 (w.alloc (.cells #[.string ⟨key.toArray⟩, .int .i64 stamp, .bool cancelled, .int .i64 day, .int .i64 kind, .string ⟨ins.toArray⟩, .string ⟨other.toArray⟩, .string ⟨cur.toArray⟩, .string ⟨target.toArray⟩, .string ⟨fq.toArray⟩, .string ⟨amt.toArray⟩, .string ⟨fee.toArray⟩, .string ⟨price.n.toArray⟩, .string ⟨price.d.toArray⟩, .string ⟨ratio.n.toArray⟩, .string ⟨ratio.d.toArray⟩, .string ⟨share.n.toArray⟩, .string ⟨share.d.toArray⟩, .slice pa picks.length pc, .slice oa os.length oc, .int .i64 choice] 36)) #[.string ⟨#[]⟩, .string ⟨#[]⟩] 32)
  have BR0 := Lib.hid (((Below.refl w.heap.size w).alloc (Nat.le_refl _) (.cells #[.string ⟨key.toArray⟩, .int .i64 stamp, .bool cancelled, .int .i64 day, .int .i64 kind, .string ⟨ins.toArray⟩, .string ⟨other.toArray⟩, .string ⟨cur.toArray⟩, .string ⟨target.toArray⟩, .string ⟨fq.toArray⟩, .string ⟨amt.toArray⟩, .string ⟨fee.toArray⟩, .string ⟨price.n.toArray⟩, .string ⟨price.d.toArray⟩, .string ⟨ratio.n.toArray⟩, .string ⟨ratio.d.toArray⟩, .string ⟨share.n.toArray⟩, .string ⟨share.d.toArray⟩, .slice pa picks.length pc, .slice oa os.length oc, .int .i64 choice] 36)).alloc (by simp) (.cells #[.string ⟨#[]⟩, .string ⟨#[]⟩] 32))
  have KF2 := Lib.hid (KF.out.below (below_alloc _ (.cells #[.string ⟨#[]⟩, .string ⟨#[]⟩] 32)))
  rw [World.size_alloc] at KR0
  go_enter Tryz.func99, Tryz.ntmps99
  go_wp2_with fail
  have HBc := below_drewN BR0.out 1
  have KX : Box ((w.alloc (.cells #[.string ⟨key.toArray⟩, .int .i64 stamp, .bool cancelled, .int .i64 day, .int .i64 kind, .string ⟨ins.toArray⟩, .string ⟨other.toArray⟩, .string ⟨cur.toArray⟩, .string ⟨target.toArray⟩, .string ⟨fq.toArray⟩, .string ⟨amt.toArray⟩, .string ⟨fee.toArray⟩, .string ⟨price.n.toArray⟩, .string ⟨price.d.toArray⟩, .string ⟨ratio.n.toArray⟩, .string ⟨ratio.d.toArray⟩, .string ⟨share.n.toArray⟩, .string ⟨share.d.toArray⟩, .slice pa picks.length pc, .slice oa os.length oc, .int .i64 choice] 36)).alloc (.cells #[.string ⟨#[]⟩, .string ⟨#[]⟩] 32)).drew w.heap.size #[.string ⟨key.toArray⟩, .int .i64 stamp, .bool cancelled, .int .i64 day, .int .i64 kind, .string ⟨ins.toArray⟩, .string ⟨other.toArray⟩, .string ⟨cur.toArray⟩, .string ⟨target.toArray⟩, .string ⟨fq.toArray⟩, .string ⟨amt.toArray⟩, .string ⟨fee.toArray⟩, .string ⟨price.n.toArray⟩, .string ⟨price.d.toArray⟩, .string ⟨ratio.n.toArray⟩, .string ⟨ratio.d.toArray⟩, .string ⟨share.n.toArray⟩, .string ⟨share.d.toArray⟩, .slice pa picks.length pc, .slice oa os.length oc, .int .i64 choice] 36 := KF2.out
  have KR : Box ((w.alloc (.cells #[.string ⟨key.toArray⟩, .int .i64 stamp, .bool cancelled, .int .i64 day, .int .i64 kind, .string ⟨ins.toArray⟩, .string ⟨other.toArray⟩, .string ⟨cur.toArray⟩, .string ⟨target.toArray⟩, .string ⟨fq.toArray⟩, .string ⟨amt.toArray⟩, .string ⟨fee.toArray⟩, .string ⟨price.n.toArray⟩, .string ⟨price.d.toArray⟩, .string ⟨ratio.n.toArray⟩, .string ⟨ratio.d.toArray⟩, .string ⟨share.n.toArray⟩, .string ⟨share.d.toArray⟩, .slice pa picks.length pc, .slice oa os.length oc, .int .i64 choice] 36)).alloc (.cells #[.string ⟨#[]⟩, .string ⟨#[]⟩] 32)).drew (w.heap.size + 1) #[.string ⟨#[]⟩, .string ⟨#[]⟩] 32 := KR0.out
  refine wp_region_held_drew (S := fun W => W.cell? ⟨w.heap.size, 9, none⟩ = some (.string ⟨fq.toArray⟩) ∧ W.cell? ⟨w.heap.size, 10, none⟩ = some (.string ⟨amt.toArray⟩) ∧ W.cell? ⟨w.heap.size, 11, none⟩ = some (.string ⟨fee.toArray⟩) ∧ W.cell? ⟨w.heap.size, 12, none⟩ = some (.string ⟨price.n.toArray⟩) ∧ W.cell? ⟨w.heap.size, 13, none⟩ = some (.string ⟨price.d.toArray⟩) ∧ W.cell? ⟨w.heap.size, 14, none⟩ = some (.string ⟨ratio.n.toArray⟩) ∧ W.cell? ⟨w.heap.size, 15, none⟩ = some (.string ⟨ratio.d.toArray⟩) ∧ W.cell? ⟨w.heap.size, 16, none⟩ = some (.string ⟨share.n.toArray⟩) ∧ W.cell? ⟨w.heap.size, 17, none⟩ = some (.string ⟨share.d.toArray⟩)) (by kernel_rfl) ?hS61 (fun hHeld => ?hR61)
  case hS61 => exact ⟨KX.cell 9, KX.cell 10, KX.cell 11, KX.cell 12, KX.cell 13, KX.cell 14, KX.cell 15, KX.cell 16, KX.cell 17⟩
  refine take_op (i := 0) (some 5) (v := ?v62) rfl rfl (by kernel_rfl) (by kernel_rfl) (by kernel_rfl) (fun _ _ _ h => h) (Or.inl ⟨by rfl, ?hy62⟩) (by assumption) ?hR62
  case hy62 => (intro w hSw; (try dsimp only at hSw); go_simp; try rfl)
  simp only [Act.put, List.setIfInBounds_toArray, List.set_cons_zero, List.set_cons_succ]
  refine take_op (i := 1) (some 6) (v := ?v63) rfl rfl (by kernel_rfl) (by kernel_rfl) (by kernel_rfl) (fun _ _ _ h => h) (Or.inl ⟨by rfl, ?hy63⟩) (by assumption) ?hR63
  case hy63 => (intro w hSw; (try dsimp only at hSw); go_simp; try rfl)
  simp only [Act.put, List.setIfInBounds_toArray, List.set_cons_zero, List.set_cons_succ]
  refine take_op (i := 3) (some 8) (v := ?v64) rfl rfl (by kernel_rfl) (by kernel_rfl) (by kernel_rfl) (fun _ _ _ h => h) (Or.inl ⟨by rfl, ?hy64⟩) (by assumption) ?hR64
  case hy64 => (intro w hSw; (try dsimp only at hSw); go_simp; try rfl)
  simp only [Act.put, List.setIfInBounds_toArray, List.set_cons_zero, List.set_cons_succ]
  refine take_op (i := 4) (some 9) (v := ?v65) rfl rfl (by kernel_rfl) (by kernel_rfl) (by kernel_rfl) (fun _ _ _ h => h) (Or.inl ⟨by rfl, ?hy65⟩) (by assumption) ?hR65
  case hy65 => (intro w hSw; (try dsimp only at hSw); go_simp; try rfl)
  simp only [Act.put, List.setIfInBounds_toArray, List.set_cons_zero, List.set_cons_succ]
  refine take_op (i := 6) (some 11) (v := ?v66) rfl rfl (by kernel_rfl) (by kernel_rfl) (by kernel_rfl) (fun _ _ _ h => h) (Or.inl ⟨by rfl, ?hy66⟩) (by assumption) ?hR66
  case hy66 => (intro w hSw; (try dsimp only at hSw); go_simp; try rfl)
  simp only [Act.put, List.setIfInBounds_toArray, List.set_cons_zero, List.set_cons_succ]
  refine take_op (i := 7) (some 12) (v := ?v67) rfl rfl (by kernel_rfl) (by kernel_rfl) (by kernel_rfl) (fun _ _ _ h => h) (Or.inl ⟨by rfl, ?hy67⟩) (by assumption) ?hR67
  case hy67 => (intro w hSw; (try dsimp only at hSw); go_simp; try rfl)
  simp only [Act.put, List.setIfInBounds_toArray, List.set_cons_zero, List.set_cons_succ]
  refine take_op (i := 9) (some 14) (v := ?v68) rfl rfl (by kernel_rfl) (by kernel_rfl) (by kernel_rfl) (fun _ _ _ h => h) (Or.inl ⟨by rfl, ?hy68⟩) (by assumption) ?hR68
  case hy68 => (intro w hSw; (try dsimp only at hSw); go_simp; try rfl)
  simp only [Act.put, List.setIfInBounds_toArray, List.set_cons_zero, List.set_cons_succ]
  refine take_op (i := 10) (some 15) (v := ?v69) rfl rfl (by kernel_rfl) (by kernel_rfl) (by kernel_rfl) (fun _ _ _ h => h) (Or.inl ⟨by rfl, ?hy69⟩) (by assumption) ?hR69
  case hy69 => (intro w hSw; (try dsimp only at hSw); go_simp; try rfl)
  simp only [Act.put, List.setIfInBounds_toArray, List.set_cons_zero, List.set_cons_succ]
  refine take_op (i := 11) (some 16) (v := ?v70) rfl rfl (by kernel_rfl) (by kernel_rfl) (by kernel_rfl) (fun _ _ _ h => h) (Or.inl ⟨by rfl, ?hy70⟩) (by assumption) ?hR70
  case hy70 => (intro w hSw; (try dsimp only at hSw); go_simp; try rfl)
  simp only [Act.put, List.setIfInBounds_toArray, List.set_cons_zero, List.set_cons_succ]
  refine take_op (i := 12) (some 17) (v := ?v71) rfl rfl (by kernel_rfl) (by kernel_rfl) (by kernel_rfl) (fun _ _ _ h => h) (Or.inl ⟨by rfl, ?hy71⟩) (by assumption) ?hR71
  case hy71 => (intro w hSw; (try dsimp only at hSw); go_simp; try rfl)
  simp only [Act.put, List.setIfInBounds_toArray, List.set_cons_zero, List.set_cons_succ]
  refine take_op (i := 13) (some 18) (v := ?v72) rfl rfl (by kernel_rfl) (by kernel_rfl) (by kernel_rfl) (fun _ _ _ h => h) (Or.inl ⟨by rfl, ?hy72⟩) (by assumption) ?hR72
  case hy72 => (intro w hSw; (try dsimp only at hSw); go_simp; try rfl)
  simp only [Act.put, List.setIfInBounds_toArray, List.set_cons_zero, List.set_cons_succ]
  refine take_op (i := 14) (some 19) (v := ?v73) rfl rfl (by kernel_rfl) (by kernel_rfl) (by kernel_rfl) (fun _ _ _ h => h) (Or.inl ⟨by rfl, ?hy73⟩) (by assumption) ?hR73
  case hy73 => (intro w hSw; (try dsimp only at hSw); go_simp; try rfl)
  simp only [Act.put, List.setIfInBounds_toArray, List.set_cons_zero, List.set_cons_succ]
  refine take_op (i := 16) (some 21) (v := ?v74) rfl rfl (by kernel_rfl) (by kernel_rfl) (by kernel_rfl) (fun _ _ _ h => h) (Or.inl ⟨by rfl, ?hy74⟩) (by assumption) ?hR74
  case hy74 => (intro w hSw; (try dsimp only at hSw); go_simp; try rfl)
  simp only [Act.put, List.setIfInBounds_toArray, List.set_cons_zero, List.set_cons_succ]
  refine wpAnyH_ready (rs := [2]) (by kernel_rfl) (by simp) ?_
  refine AllReadyH.cons (o := _) rfl (fun K hK => ?hC75) AllReadyH.nil
  rw [if_pos (by rfl)]
  go_simp
  go_at_call 131
  refine (factWhole_any fq _).mono ?_
  rintro e wn ⟨rfl, hbn⟩
  replace HBc := below_up HBc hbn
  replace KX := KX.below hbn
  replace KR := KR.below hbn
  clear hbn
  go_wp2_with fail
  refine hK.out _ _ ?hS75 (fun hHeld => ?hR75)
  case hS75 => exact ⟨KX.cell 9, KX.cell 10, KX.cell 11, KX.cell 12, KX.cell 13, KX.cell 14, KX.cell 15, KX.cell 16, KX.cell 17⟩
  try simp only [Act.put, List.setIfInBounds_toArray, List.set_cons_zero, List.set_cons_succ]
  refine wpAnyH_ready (rs := [5]) (by kernel_rfl) (by simp) ?_
  refine AllReadyH.cons (o := _) rfl (fun K hK => ?hC76) AllReadyH.nil
  rw [if_pos (by rfl)]
  go_simp
  go_at_call 131
  refine (factWhole_any amt _).mono ?_
  rintro e wn ⟨rfl, hbn⟩
  replace HBc := below_up HBc hbn
  replace KX := KX.below hbn
  replace KR := KR.below hbn
  clear hbn
  go_wp2_with fail
  refine hK.out _ _ ?hS76 (fun hHeld => ?hR76)
  case hS76 => exact ⟨KX.cell 9, KX.cell 10, KX.cell 11, KX.cell 12, KX.cell 13, KX.cell 14, KX.cell 15, KX.cell 16, KX.cell 17⟩
  try simp only [Act.put, List.setIfInBounds_toArray, List.set_cons_zero, List.set_cons_succ]
  refine wpAnyH_ready (rs := [8]) (by kernel_rfl) (by simp) ?_
  refine AllReadyH.cons (o := _) rfl (fun K hK => ?hC77) AllReadyH.nil
  rw [if_pos (by rfl)]
  go_simp
  go_at_call 131
  refine (factWhole_any fee _).mono ?_
  rintro e wn ⟨rfl, hbn⟩
  replace HBc := below_up HBc hbn
  replace KX := KX.below hbn
  replace KR := KR.below hbn
  clear hbn
  go_wp2_with fail
  refine hK.out _ _ ?hS77 (fun hHeld => ?hR77)
  case hS77 => exact ⟨KX.cell 9, KX.cell 10, KX.cell 11, KX.cell 12, KX.cell 13, KX.cell 14, KX.cell 15, KX.cell 16, KX.cell 17⟩
  try simp only [Act.put, List.setIfInBounds_toArray, List.set_cons_zero, List.set_cons_succ]
  refine take_op (i := 15) (some 20) (v := ?v78) rfl rfl (by kernel_rfl) (by kernel_rfl) (by kernel_rfl) (fun _ _ _ h => h) (Or.inl ⟨by rfl, ?hy78⟩) (by assumption) ?hR78
  case hy78 => (intro w hSw; (try dsimp only at hSw); go_simp; try rfl)
  simp only [Act.put, List.setIfInBounds_toArray, List.set_cons_zero, List.set_cons_succ]
  refine take_op (i := 17) (some 22) (v := ?v79) rfl rfl (by kernel_rfl) (by kernel_rfl) (by kernel_rfl) (fun _ _ _ h => h) (Or.inl ⟨by rfl, ?hy79⟩) (by assumption) ?hR79
  case hy79 => (intro w hSw; (try dsimp only at hSw); go_simp; try rfl)
  simp only [Act.put, List.setIfInBounds_toArray, List.set_cons_zero, List.set_cons_succ]
  refine wpAnyH_ready (rs := [18]) (by kernel_rfl) (by simp) ?_
  refine AllReadyH.cons (o := _) rfl (fun K hK => ?hC80) AllReadyH.nil
  rw [if_pos (by rfl)]
  have r0 := KR.cell 0
  have r1 := KR.cell 1
  have g0 := frozen_at KR.2 0
  have g1 := frozen_at KR.2 1
  go_simp
  go_wp2_with fail
  refine hK.out _ _ ?hS80 (fun hHeld => ?hR80)
  case hS80 => exact ⟨(cell_two _ _ (by omega)).trans (KX.cell 9), (cell_two _ _ (by omega)).trans (KX.cell 10), (cell_two _ _ (by omega)).trans (KX.cell 11), (cell_two _ _ (by omega)).trans (KX.cell 12), (cell_two _ _ (by omega)).trans (KX.cell 13), (cell_two _ _ (by omega)).trans (KX.cell 14), (cell_two _ _ (by omega)).trans (KX.cell 15), (cell_two _ _ (by omega)).trans (KX.cell 16), (cell_two _ _ (by omega)).trans (KX.cell 17)⟩
  try simp only [Act.put, List.setIfInBounds_toArray, List.set_cons_zero, List.set_cons_succ]
  refine wpAnyH_done (by kernel_rfl) ?_ _
  go_wp2
  exact bodyPost_ret (v := .agg #[.string ⟨price.n.toArray⟩, .string ⟨price.d.toArray⟩]) (by simp [results, Tryz.results99, go_sem, r0, r1]) rfl ⟨rfl, (HBc.setCell (p := ⟨w.heap.size + 1, 0, none⟩) (by show _ ≤ w.heap.size + 1; omega) _).setCell (p := ⟨w.heap.size + 1, 1, none⟩) (by show _ ≤ w.heap.size + 1; omega) _⟩
set_option maxHeartbeats 2000000 in
set_option maxRecDepth 100000 in
theorem value_8 (f : FactP) (pa oa : Option Addr) (pc oc : Nat) (w : World) :
    Calls Tryz.prog 99 #[.agg (f.cells pa pc oa oc), .int .i64 8] w fun e w' => e = .returned (f.num 8).agg ∧ Below w.heap.size w w' := by
  have KF := Lib.hid (Box.new0 w (f.cells pa pc oa oc) 36)
  unfold FactP.num FracP.agg
  obtain ⟨key, stamp, cancelled, day, kind, ins, other, cur, target, fq, amt, fee, price, ratio, share, picks, os, choice⟩ := f
  unfold FactP.cells at *
  dsimp only at *
  simp only [Nat.reduceEqDiff, if_true, if_false]
  have hix : ∀ (s0 s1 s2 s3 s4 s5 s6 s7 s8 : ByteArray) (W : World), (Instr.index 153 (.agg #[.string ⟨#[]⟩, .string ⟨#[]⟩, .string ⟨#[]⟩, .string ⟨#[]⟩, .string ⟨#[]⟩, .string ⟨#[]⟩, .string ⟨#[]⟩, .string ⟨#[]⟩, .string s0, .string ⟨#[]⟩, .string s1, .string ⟨#[]⟩, .string s2, .string ⟨#[]⟩, .string s3, .string s4, .string s5, .string s6, .string s7, .string s8, .string ⟨#[]⟩, .string ⟨#[]⟩, .string ⟨#[]⟩, .string ⟨#[]⟩, .string ⟨#[]⟩, .string ⟨#[]⟩]) (.int .i64 8)).run Tryz.prog W = .ok (.agg #[.string s5, .string s6]) W := fun _ _ _ _ _ _ _ _ _ _ => by kernel_rfl
  have KR0 := Lib.hid (Box.new0 (w.alloc (.cells #[.string ⟨key.toArray⟩, .int .i64 stamp, .bool cancelled, .int .i64 day, .int .i64 kind, .string ⟨ins.toArray⟩, .string ⟨other.toArray⟩, .string ⟨cur.toArray⟩, .string ⟨target.toArray⟩, .string ⟨fq.toArray⟩, .string ⟨amt.toArray⟩, .string ⟨fee.toArray⟩, .string ⟨price.n.toArray⟩, .string ⟨price.d.toArray⟩, .string ⟨ratio.n.toArray⟩, .string ⟨ratio.d.toArray⟩, .string ⟨share.n.toArray⟩, .string ⟨share.d.toArray⟩, .slice pa picks.length pc, .slice oa os.length oc, .int .i64 choice] 36)) #[.string ⟨#[]⟩, .string ⟨#[]⟩] 32)
  have BR0 := Lib.hid (((Below.refl w.heap.size w).alloc (Nat.le_refl _) (.cells #[.string ⟨key.toArray⟩, .int .i64 stamp, .bool cancelled, .int .i64 day, .int .i64 kind, .string ⟨ins.toArray⟩, .string ⟨other.toArray⟩, .string ⟨cur.toArray⟩, .string ⟨target.toArray⟩, .string ⟨fq.toArray⟩, .string ⟨amt.toArray⟩, .string ⟨fee.toArray⟩, .string ⟨price.n.toArray⟩, .string ⟨price.d.toArray⟩, .string ⟨ratio.n.toArray⟩, .string ⟨ratio.d.toArray⟩, .string ⟨share.n.toArray⟩, .string ⟨share.d.toArray⟩, .slice pa picks.length pc, .slice oa os.length oc, .int .i64 choice] 36)).alloc (by simp) (.cells #[.string ⟨#[]⟩, .string ⟨#[]⟩] 32))
  have KF2 := Lib.hid (KF.out.below (below_alloc _ (.cells #[.string ⟨#[]⟩, .string ⟨#[]⟩] 32)))
  rw [World.size_alloc] at KR0
  go_enter Tryz.func99, Tryz.ntmps99
  go_wp2_with fail
  have HBc := below_drewN BR0.out 1
  have KX : Box ((w.alloc (.cells #[.string ⟨key.toArray⟩, .int .i64 stamp, .bool cancelled, .int .i64 day, .int .i64 kind, .string ⟨ins.toArray⟩, .string ⟨other.toArray⟩, .string ⟨cur.toArray⟩, .string ⟨target.toArray⟩, .string ⟨fq.toArray⟩, .string ⟨amt.toArray⟩, .string ⟨fee.toArray⟩, .string ⟨price.n.toArray⟩, .string ⟨price.d.toArray⟩, .string ⟨ratio.n.toArray⟩, .string ⟨ratio.d.toArray⟩, .string ⟨share.n.toArray⟩, .string ⟨share.d.toArray⟩, .slice pa picks.length pc, .slice oa os.length oc, .int .i64 choice] 36)).alloc (.cells #[.string ⟨#[]⟩, .string ⟨#[]⟩] 32)).drew w.heap.size #[.string ⟨key.toArray⟩, .int .i64 stamp, .bool cancelled, .int .i64 day, .int .i64 kind, .string ⟨ins.toArray⟩, .string ⟨other.toArray⟩, .string ⟨cur.toArray⟩, .string ⟨target.toArray⟩, .string ⟨fq.toArray⟩, .string ⟨amt.toArray⟩, .string ⟨fee.toArray⟩, .string ⟨price.n.toArray⟩, .string ⟨price.d.toArray⟩, .string ⟨ratio.n.toArray⟩, .string ⟨ratio.d.toArray⟩, .string ⟨share.n.toArray⟩, .string ⟨share.d.toArray⟩, .slice pa picks.length pc, .slice oa os.length oc, .int .i64 choice] 36 := KF2.out
  have KR : Box ((w.alloc (.cells #[.string ⟨key.toArray⟩, .int .i64 stamp, .bool cancelled, .int .i64 day, .int .i64 kind, .string ⟨ins.toArray⟩, .string ⟨other.toArray⟩, .string ⟨cur.toArray⟩, .string ⟨target.toArray⟩, .string ⟨fq.toArray⟩, .string ⟨amt.toArray⟩, .string ⟨fee.toArray⟩, .string ⟨price.n.toArray⟩, .string ⟨price.d.toArray⟩, .string ⟨ratio.n.toArray⟩, .string ⟨ratio.d.toArray⟩, .string ⟨share.n.toArray⟩, .string ⟨share.d.toArray⟩, .slice pa picks.length pc, .slice oa os.length oc, .int .i64 choice] 36)).alloc (.cells #[.string ⟨#[]⟩, .string ⟨#[]⟩] 32)).drew (w.heap.size + 1) #[.string ⟨#[]⟩, .string ⟨#[]⟩] 32 := KR0.out
  refine wp_region_held_drew (S := fun W => W.cell? ⟨w.heap.size, 9, none⟩ = some (.string ⟨fq.toArray⟩) ∧ W.cell? ⟨w.heap.size, 10, none⟩ = some (.string ⟨amt.toArray⟩) ∧ W.cell? ⟨w.heap.size, 11, none⟩ = some (.string ⟨fee.toArray⟩) ∧ W.cell? ⟨w.heap.size, 12, none⟩ = some (.string ⟨price.n.toArray⟩) ∧ W.cell? ⟨w.heap.size, 13, none⟩ = some (.string ⟨price.d.toArray⟩) ∧ W.cell? ⟨w.heap.size, 14, none⟩ = some (.string ⟨ratio.n.toArray⟩) ∧ W.cell? ⟨w.heap.size, 15, none⟩ = some (.string ⟨ratio.d.toArray⟩) ∧ W.cell? ⟨w.heap.size, 16, none⟩ = some (.string ⟨share.n.toArray⟩) ∧ W.cell? ⟨w.heap.size, 17, none⟩ = some (.string ⟨share.d.toArray⟩)) (by kernel_rfl) ?hS81 (fun hHeld => ?hR81)
  case hS81 => exact ⟨KX.cell 9, KX.cell 10, KX.cell 11, KX.cell 12, KX.cell 13, KX.cell 14, KX.cell 15, KX.cell 16, KX.cell 17⟩
  refine take_op (i := 0) (some 5) (v := ?v82) rfl rfl (by kernel_rfl) (by kernel_rfl) (by kernel_rfl) (fun _ _ _ h => h) (Or.inl ⟨by rfl, ?hy82⟩) (by assumption) ?hR82
  case hy82 => (intro w hSw; (try dsimp only at hSw); go_simp; try rfl)
  simp only [Act.put, List.setIfInBounds_toArray, List.set_cons_zero, List.set_cons_succ]
  refine take_op (i := 1) (some 6) (v := ?v83) rfl rfl (by kernel_rfl) (by kernel_rfl) (by kernel_rfl) (fun _ _ _ h => h) (Or.inl ⟨by rfl, ?hy83⟩) (by assumption) ?hR83
  case hy83 => (intro w hSw; (try dsimp only at hSw); go_simp; try rfl)
  simp only [Act.put, List.setIfInBounds_toArray, List.set_cons_zero, List.set_cons_succ]
  refine take_op (i := 3) (some 8) (v := ?v84) rfl rfl (by kernel_rfl) (by kernel_rfl) (by kernel_rfl) (fun _ _ _ h => h) (Or.inl ⟨by rfl, ?hy84⟩) (by assumption) ?hR84
  case hy84 => (intro w hSw; (try dsimp only at hSw); go_simp; try rfl)
  simp only [Act.put, List.setIfInBounds_toArray, List.set_cons_zero, List.set_cons_succ]
  refine take_op (i := 4) (some 9) (v := ?v85) rfl rfl (by kernel_rfl) (by kernel_rfl) (by kernel_rfl) (fun _ _ _ h => h) (Or.inl ⟨by rfl, ?hy85⟩) (by assumption) ?hR85
  case hy85 => (intro w hSw; (try dsimp only at hSw); go_simp; try rfl)
  simp only [Act.put, List.setIfInBounds_toArray, List.set_cons_zero, List.set_cons_succ]
  refine take_op (i := 6) (some 11) (v := ?v86) rfl rfl (by kernel_rfl) (by kernel_rfl) (by kernel_rfl) (fun _ _ _ h => h) (Or.inl ⟨by rfl, ?hy86⟩) (by assumption) ?hR86
  case hy86 => (intro w hSw; (try dsimp only at hSw); go_simp; try rfl)
  simp only [Act.put, List.setIfInBounds_toArray, List.set_cons_zero, List.set_cons_succ]
  refine take_op (i := 7) (some 12) (v := ?v87) rfl rfl (by kernel_rfl) (by kernel_rfl) (by kernel_rfl) (fun _ _ _ h => h) (Or.inl ⟨by rfl, ?hy87⟩) (by assumption) ?hR87
  case hy87 => (intro w hSw; (try dsimp only at hSw); go_simp; try rfl)
  simp only [Act.put, List.setIfInBounds_toArray, List.set_cons_zero, List.set_cons_succ]
  refine take_op (i := 9) (some 14) (v := ?v88) rfl rfl (by kernel_rfl) (by kernel_rfl) (by kernel_rfl) (fun _ _ _ h => h) (Or.inl ⟨by rfl, ?hy88⟩) (by assumption) ?hR88
  case hy88 => (intro w hSw; (try dsimp only at hSw); go_simp; try rfl)
  simp only [Act.put, List.setIfInBounds_toArray, List.set_cons_zero, List.set_cons_succ]
  refine take_op (i := 10) (some 15) (v := ?v89) rfl rfl (by kernel_rfl) (by kernel_rfl) (by kernel_rfl) (fun _ _ _ h => h) (Or.inl ⟨by rfl, ?hy89⟩) (by assumption) ?hR89
  case hy89 => (intro w hSw; (try dsimp only at hSw); go_simp; try rfl)
  simp only [Act.put, List.setIfInBounds_toArray, List.set_cons_zero, List.set_cons_succ]
  refine take_op (i := 11) (some 16) (v := ?v90) rfl rfl (by kernel_rfl) (by kernel_rfl) (by kernel_rfl) (fun _ _ _ h => h) (Or.inl ⟨by rfl, ?hy90⟩) (by assumption) ?hR90
  case hy90 => (intro w hSw; (try dsimp only at hSw); go_simp; try rfl)
  simp only [Act.put, List.setIfInBounds_toArray, List.set_cons_zero, List.set_cons_succ]
  refine take_op (i := 12) (some 17) (v := ?v91) rfl rfl (by kernel_rfl) (by kernel_rfl) (by kernel_rfl) (fun _ _ _ h => h) (Or.inl ⟨by rfl, ?hy91⟩) (by assumption) ?hR91
  case hy91 => (intro w hSw; (try dsimp only at hSw); go_simp; try rfl)
  simp only [Act.put, List.setIfInBounds_toArray, List.set_cons_zero, List.set_cons_succ]
  refine take_op (i := 13) (some 18) (v := ?v92) rfl rfl (by kernel_rfl) (by kernel_rfl) (by kernel_rfl) (fun _ _ _ h => h) (Or.inl ⟨by rfl, ?hy92⟩) (by assumption) ?hR92
  case hy92 => (intro w hSw; (try dsimp only at hSw); go_simp; try rfl)
  simp only [Act.put, List.setIfInBounds_toArray, List.set_cons_zero, List.set_cons_succ]
  refine take_op (i := 14) (some 19) (v := ?v93) rfl rfl (by kernel_rfl) (by kernel_rfl) (by kernel_rfl) (fun _ _ _ h => h) (Or.inl ⟨by rfl, ?hy93⟩) (by assumption) ?hR93
  case hy93 => (intro w hSw; (try dsimp only at hSw); go_simp; try rfl)
  simp only [Act.put, List.setIfInBounds_toArray, List.set_cons_zero, List.set_cons_succ]
  refine take_op (i := 16) (some 21) (v := ?v94) rfl rfl (by kernel_rfl) (by kernel_rfl) (by kernel_rfl) (fun _ _ _ h => h) (Or.inl ⟨by rfl, ?hy94⟩) (by assumption) ?hR94
  case hy94 => (intro w hSw; (try dsimp only at hSw); go_simp; try rfl)
  simp only [Act.put, List.setIfInBounds_toArray, List.set_cons_zero, List.set_cons_succ]
  refine wpAnyH_ready (rs := [2]) (by kernel_rfl) (by simp) ?_
  refine AllReadyH.cons (o := _) rfl (fun K hK => ?hC95) AllReadyH.nil
  rw [if_pos (by rfl)]
  go_simp
  go_at_call 131
  refine (factWhole_any fq _).mono ?_
  rintro e wn ⟨rfl, hbn⟩
  replace HBc := below_up HBc hbn
  replace KX := KX.below hbn
  replace KR := KR.below hbn
  clear hbn
  go_wp2_with fail
  refine hK.out _ _ ?hS95 (fun hHeld => ?hR95)
  case hS95 => exact ⟨KX.cell 9, KX.cell 10, KX.cell 11, KX.cell 12, KX.cell 13, KX.cell 14, KX.cell 15, KX.cell 16, KX.cell 17⟩
  try simp only [Act.put, List.setIfInBounds_toArray, List.set_cons_zero, List.set_cons_succ]
  refine wpAnyH_ready (rs := [5]) (by kernel_rfl) (by simp) ?_
  refine AllReadyH.cons (o := _) rfl (fun K hK => ?hC96) AllReadyH.nil
  rw [if_pos (by rfl)]
  go_simp
  go_at_call 131
  refine (factWhole_any amt _).mono ?_
  rintro e wn ⟨rfl, hbn⟩
  replace HBc := below_up HBc hbn
  replace KX := KX.below hbn
  replace KR := KR.below hbn
  clear hbn
  go_wp2_with fail
  refine hK.out _ _ ?hS96 (fun hHeld => ?hR96)
  case hS96 => exact ⟨KX.cell 9, KX.cell 10, KX.cell 11, KX.cell 12, KX.cell 13, KX.cell 14, KX.cell 15, KX.cell 16, KX.cell 17⟩
  try simp only [Act.put, List.setIfInBounds_toArray, List.set_cons_zero, List.set_cons_succ]
  refine wpAnyH_ready (rs := [8]) (by kernel_rfl) (by simp) ?_
  refine AllReadyH.cons (o := _) rfl (fun K hK => ?hC97) AllReadyH.nil
  rw [if_pos (by rfl)]
  go_simp
  go_at_call 131
  refine (factWhole_any fee _).mono ?_
  rintro e wn ⟨rfl, hbn⟩
  replace HBc := below_up HBc hbn
  replace KX := KX.below hbn
  replace KR := KR.below hbn
  clear hbn
  go_wp2_with fail
  refine hK.out _ _ ?hS97 (fun hHeld => ?hR97)
  case hS97 => exact ⟨KX.cell 9, KX.cell 10, KX.cell 11, KX.cell 12, KX.cell 13, KX.cell 14, KX.cell 15, KX.cell 16, KX.cell 17⟩
  try simp only [Act.put, List.setIfInBounds_toArray, List.set_cons_zero, List.set_cons_succ]
  refine take_op (i := 15) (some 20) (v := ?v98) rfl rfl (by kernel_rfl) (by kernel_rfl) (by kernel_rfl) (fun _ _ _ h => h) (Or.inl ⟨by rfl, ?hy98⟩) (by assumption) ?hR98
  case hy98 => (intro w hSw; (try dsimp only at hSw); go_simp; try rfl)
  simp only [Act.put, List.setIfInBounds_toArray, List.set_cons_zero, List.set_cons_succ]
  refine take_op (i := 17) (some 22) (v := ?v99) rfl rfl (by kernel_rfl) (by kernel_rfl) (by kernel_rfl) (fun _ _ _ h => h) (Or.inl ⟨by rfl, ?hy99⟩) (by assumption) ?hR99
  case hy99 => (intro w hSw; (try dsimp only at hSw); go_simp; try rfl)
  simp only [Act.put, List.setIfInBounds_toArray, List.set_cons_zero, List.set_cons_succ]
  refine wpAnyH_ready (rs := [18]) (by kernel_rfl) (by simp) ?_
  refine AllReadyH.cons (o := _) rfl (fun K hK => ?hC100) AllReadyH.nil
  rw [if_pos (by rfl)]
  have r0 := KR.cell 0
  have r1 := KR.cell 1
  have g0 := frozen_at KR.2 0
  have g1 := frozen_at KR.2 1
  go_simp
  go_wp2_with fail
  refine hK.out _ _ ?hS100 (fun hHeld => ?hR100)
  case hS100 => exact ⟨(cell_two _ _ (by omega)).trans (KX.cell 9), (cell_two _ _ (by omega)).trans (KX.cell 10), (cell_two _ _ (by omega)).trans (KX.cell 11), (cell_two _ _ (by omega)).trans (KX.cell 12), (cell_two _ _ (by omega)).trans (KX.cell 13), (cell_two _ _ (by omega)).trans (KX.cell 14), (cell_two _ _ (by omega)).trans (KX.cell 15), (cell_two _ _ (by omega)).trans (KX.cell 16), (cell_two _ _ (by omega)).trans (KX.cell 17)⟩
  try simp only [Act.put, List.setIfInBounds_toArray, List.set_cons_zero, List.set_cons_succ]
  refine wpAnyH_done (by kernel_rfl) ?_ _
  go_wp2
  exact bodyPost_ret (v := .agg #[.string ⟨ratio.n.toArray⟩, .string ⟨ratio.d.toArray⟩]) (by simp [results, Tryz.results99, go_sem, r0, r1]) rfl ⟨rfl, (HBc.setCell (p := ⟨w.heap.size + 1, 0, none⟩) (by show _ ≤ w.heap.size + 1; omega) _).setCell (p := ⟨w.heap.size + 1, 1, none⟩) (by show _ ≤ w.heap.size + 1; omega) _⟩
set_option maxHeartbeats 2000000 in
set_option maxRecDepth 100000 in
theorem value_9 (f : FactP) (pa oa : Option Addr) (pc oc : Nat) (w : World) :
    Calls Tryz.prog 99 #[.agg (f.cells pa pc oa oc), .int .i64 9] w fun e w' => e = .returned (f.num 9).agg ∧ Below w.heap.size w w' := by
  have KF := Lib.hid (Box.new0 w (f.cells pa pc oa oc) 36)
  unfold FactP.num FracP.agg
  obtain ⟨key, stamp, cancelled, day, kind, ins, other, cur, target, fq, amt, fee, price, ratio, share, picks, os, choice⟩ := f
  unfold FactP.cells at *
  dsimp only at *
  simp only [Nat.reduceEqDiff, if_false]
  have hix : ∀ (s0 s1 s2 s3 s4 s5 s6 s7 s8 : ByteArray) (W : World), (Instr.index 153 (.agg #[.string ⟨#[]⟩, .string ⟨#[]⟩, .string ⟨#[]⟩, .string ⟨#[]⟩, .string ⟨#[]⟩, .string ⟨#[]⟩, .string ⟨#[]⟩, .string ⟨#[]⟩, .string s0, .string ⟨#[]⟩, .string s1, .string ⟨#[]⟩, .string s2, .string ⟨#[]⟩, .string s3, .string s4, .string s5, .string s6, .string s7, .string s8, .string ⟨#[]⟩, .string ⟨#[]⟩, .string ⟨#[]⟩, .string ⟨#[]⟩, .string ⟨#[]⟩, .string ⟨#[]⟩]) (.int .i64 9)).run Tryz.prog W = .ok (.agg #[.string s7, .string s8]) W := fun _ _ _ _ _ _ _ _ _ _ => by kernel_rfl
  have KR0 := Lib.hid (Box.new0 (w.alloc (.cells #[.string ⟨key.toArray⟩, .int .i64 stamp, .bool cancelled, .int .i64 day, .int .i64 kind, .string ⟨ins.toArray⟩, .string ⟨other.toArray⟩, .string ⟨cur.toArray⟩, .string ⟨target.toArray⟩, .string ⟨fq.toArray⟩, .string ⟨amt.toArray⟩, .string ⟨fee.toArray⟩, .string ⟨price.n.toArray⟩, .string ⟨price.d.toArray⟩, .string ⟨ratio.n.toArray⟩, .string ⟨ratio.d.toArray⟩, .string ⟨share.n.toArray⟩, .string ⟨share.d.toArray⟩, .slice pa picks.length pc, .slice oa os.length oc, .int .i64 choice] 36)) #[.string ⟨#[]⟩, .string ⟨#[]⟩] 32)
  have BR0 := Lib.hid (((Below.refl w.heap.size w).alloc (Nat.le_refl _) (.cells #[.string ⟨key.toArray⟩, .int .i64 stamp, .bool cancelled, .int .i64 day, .int .i64 kind, .string ⟨ins.toArray⟩, .string ⟨other.toArray⟩, .string ⟨cur.toArray⟩, .string ⟨target.toArray⟩, .string ⟨fq.toArray⟩, .string ⟨amt.toArray⟩, .string ⟨fee.toArray⟩, .string ⟨price.n.toArray⟩, .string ⟨price.d.toArray⟩, .string ⟨ratio.n.toArray⟩, .string ⟨ratio.d.toArray⟩, .string ⟨share.n.toArray⟩, .string ⟨share.d.toArray⟩, .slice pa picks.length pc, .slice oa os.length oc, .int .i64 choice] 36)).alloc (by simp) (.cells #[.string ⟨#[]⟩, .string ⟨#[]⟩] 32))
  have KF2 := Lib.hid (KF.out.below (below_alloc _ (.cells #[.string ⟨#[]⟩, .string ⟨#[]⟩] 32)))
  rw [World.size_alloc] at KR0
  go_enter Tryz.func99, Tryz.ntmps99
  go_wp2_with fail
  have HBc := below_drewN BR0.out 1
  have KX : Box ((w.alloc (.cells #[.string ⟨key.toArray⟩, .int .i64 stamp, .bool cancelled, .int .i64 day, .int .i64 kind, .string ⟨ins.toArray⟩, .string ⟨other.toArray⟩, .string ⟨cur.toArray⟩, .string ⟨target.toArray⟩, .string ⟨fq.toArray⟩, .string ⟨amt.toArray⟩, .string ⟨fee.toArray⟩, .string ⟨price.n.toArray⟩, .string ⟨price.d.toArray⟩, .string ⟨ratio.n.toArray⟩, .string ⟨ratio.d.toArray⟩, .string ⟨share.n.toArray⟩, .string ⟨share.d.toArray⟩, .slice pa picks.length pc, .slice oa os.length oc, .int .i64 choice] 36)).alloc (.cells #[.string ⟨#[]⟩, .string ⟨#[]⟩] 32)).drew w.heap.size #[.string ⟨key.toArray⟩, .int .i64 stamp, .bool cancelled, .int .i64 day, .int .i64 kind, .string ⟨ins.toArray⟩, .string ⟨other.toArray⟩, .string ⟨cur.toArray⟩, .string ⟨target.toArray⟩, .string ⟨fq.toArray⟩, .string ⟨amt.toArray⟩, .string ⟨fee.toArray⟩, .string ⟨price.n.toArray⟩, .string ⟨price.d.toArray⟩, .string ⟨ratio.n.toArray⟩, .string ⟨ratio.d.toArray⟩, .string ⟨share.n.toArray⟩, .string ⟨share.d.toArray⟩, .slice pa picks.length pc, .slice oa os.length oc, .int .i64 choice] 36 := KF2.out
  have KR : Box ((w.alloc (.cells #[.string ⟨key.toArray⟩, .int .i64 stamp, .bool cancelled, .int .i64 day, .int .i64 kind, .string ⟨ins.toArray⟩, .string ⟨other.toArray⟩, .string ⟨cur.toArray⟩, .string ⟨target.toArray⟩, .string ⟨fq.toArray⟩, .string ⟨amt.toArray⟩, .string ⟨fee.toArray⟩, .string ⟨price.n.toArray⟩, .string ⟨price.d.toArray⟩, .string ⟨ratio.n.toArray⟩, .string ⟨ratio.d.toArray⟩, .string ⟨share.n.toArray⟩, .string ⟨share.d.toArray⟩, .slice pa picks.length pc, .slice oa os.length oc, .int .i64 choice] 36)).alloc (.cells #[.string ⟨#[]⟩, .string ⟨#[]⟩] 32)).drew (w.heap.size + 1) #[.string ⟨#[]⟩, .string ⟨#[]⟩] 32 := KR0.out
  refine wp_region_held_drew (S := fun W => W.cell? ⟨w.heap.size, 9, none⟩ = some (.string ⟨fq.toArray⟩) ∧ W.cell? ⟨w.heap.size, 10, none⟩ = some (.string ⟨amt.toArray⟩) ∧ W.cell? ⟨w.heap.size, 11, none⟩ = some (.string ⟨fee.toArray⟩) ∧ W.cell? ⟨w.heap.size, 12, none⟩ = some (.string ⟨price.n.toArray⟩) ∧ W.cell? ⟨w.heap.size, 13, none⟩ = some (.string ⟨price.d.toArray⟩) ∧ W.cell? ⟨w.heap.size, 14, none⟩ = some (.string ⟨ratio.n.toArray⟩) ∧ W.cell? ⟨w.heap.size, 15, none⟩ = some (.string ⟨ratio.d.toArray⟩) ∧ W.cell? ⟨w.heap.size, 16, none⟩ = some (.string ⟨share.n.toArray⟩) ∧ W.cell? ⟨w.heap.size, 17, none⟩ = some (.string ⟨share.d.toArray⟩)) (by kernel_rfl) ?hS101 (fun hHeld => ?hR101)
  case hS101 => exact ⟨KX.cell 9, KX.cell 10, KX.cell 11, KX.cell 12, KX.cell 13, KX.cell 14, KX.cell 15, KX.cell 16, KX.cell 17⟩
  refine take_op (i := 0) (some 5) (v := ?v102) rfl rfl (by kernel_rfl) (by kernel_rfl) (by kernel_rfl) (fun _ _ _ h => h) (Or.inl ⟨by rfl, ?hy102⟩) (by assumption) ?hR102
  case hy102 => (intro w hSw; (try dsimp only at hSw); go_simp; try rfl)
  simp only [Act.put, List.setIfInBounds_toArray, List.set_cons_zero, List.set_cons_succ]
  refine take_op (i := 1) (some 6) (v := ?v103) rfl rfl (by kernel_rfl) (by kernel_rfl) (by kernel_rfl) (fun _ _ _ h => h) (Or.inl ⟨by rfl, ?hy103⟩) (by assumption) ?hR103
  case hy103 => (intro w hSw; (try dsimp only at hSw); go_simp; try rfl)
  simp only [Act.put, List.setIfInBounds_toArray, List.set_cons_zero, List.set_cons_succ]
  refine take_op (i := 3) (some 8) (v := ?v104) rfl rfl (by kernel_rfl) (by kernel_rfl) (by kernel_rfl) (fun _ _ _ h => h) (Or.inl ⟨by rfl, ?hy104⟩) (by assumption) ?hR104
  case hy104 => (intro w hSw; (try dsimp only at hSw); go_simp; try rfl)
  simp only [Act.put, List.setIfInBounds_toArray, List.set_cons_zero, List.set_cons_succ]
  refine take_op (i := 4) (some 9) (v := ?v105) rfl rfl (by kernel_rfl) (by kernel_rfl) (by kernel_rfl) (fun _ _ _ h => h) (Or.inl ⟨by rfl, ?hy105⟩) (by assumption) ?hR105
  case hy105 => (intro w hSw; (try dsimp only at hSw); go_simp; try rfl)
  simp only [Act.put, List.setIfInBounds_toArray, List.set_cons_zero, List.set_cons_succ]
  refine take_op (i := 6) (some 11) (v := ?v106) rfl rfl (by kernel_rfl) (by kernel_rfl) (by kernel_rfl) (fun _ _ _ h => h) (Or.inl ⟨by rfl, ?hy106⟩) (by assumption) ?hR106
  case hy106 => (intro w hSw; (try dsimp only at hSw); go_simp; try rfl)
  simp only [Act.put, List.setIfInBounds_toArray, List.set_cons_zero, List.set_cons_succ]
  refine take_op (i := 7) (some 12) (v := ?v107) rfl rfl (by kernel_rfl) (by kernel_rfl) (by kernel_rfl) (fun _ _ _ h => h) (Or.inl ⟨by rfl, ?hy107⟩) (by assumption) ?hR107
  case hy107 => (intro w hSw; (try dsimp only at hSw); go_simp; try rfl)
  simp only [Act.put, List.setIfInBounds_toArray, List.set_cons_zero, List.set_cons_succ]
  refine take_op (i := 9) (some 14) (v := ?v108) rfl rfl (by kernel_rfl) (by kernel_rfl) (by kernel_rfl) (fun _ _ _ h => h) (Or.inl ⟨by rfl, ?hy108⟩) (by assumption) ?hR108
  case hy108 => (intro w hSw; (try dsimp only at hSw); go_simp; try rfl)
  simp only [Act.put, List.setIfInBounds_toArray, List.set_cons_zero, List.set_cons_succ]
  refine take_op (i := 10) (some 15) (v := ?v109) rfl rfl (by kernel_rfl) (by kernel_rfl) (by kernel_rfl) (fun _ _ _ h => h) (Or.inl ⟨by rfl, ?hy109⟩) (by assumption) ?hR109
  case hy109 => (intro w hSw; (try dsimp only at hSw); go_simp; try rfl)
  simp only [Act.put, List.setIfInBounds_toArray, List.set_cons_zero, List.set_cons_succ]
  refine take_op (i := 11) (some 16) (v := ?v110) rfl rfl (by kernel_rfl) (by kernel_rfl) (by kernel_rfl) (fun _ _ _ h => h) (Or.inl ⟨by rfl, ?hy110⟩) (by assumption) ?hR110
  case hy110 => (intro w hSw; (try dsimp only at hSw); go_simp; try rfl)
  simp only [Act.put, List.setIfInBounds_toArray, List.set_cons_zero, List.set_cons_succ]
  refine take_op (i := 12) (some 17) (v := ?v111) rfl rfl (by kernel_rfl) (by kernel_rfl) (by kernel_rfl) (fun _ _ _ h => h) (Or.inl ⟨by rfl, ?hy111⟩) (by assumption) ?hR111
  case hy111 => (intro w hSw; (try dsimp only at hSw); go_simp; try rfl)
  simp only [Act.put, List.setIfInBounds_toArray, List.set_cons_zero, List.set_cons_succ]
  refine take_op (i := 13) (some 18) (v := ?v112) rfl rfl (by kernel_rfl) (by kernel_rfl) (by kernel_rfl) (fun _ _ _ h => h) (Or.inl ⟨by rfl, ?hy112⟩) (by assumption) ?hR112
  case hy112 => (intro w hSw; (try dsimp only at hSw); go_simp; try rfl)
  simp only [Act.put, List.setIfInBounds_toArray, List.set_cons_zero, List.set_cons_succ]
  refine take_op (i := 14) (some 19) (v := ?v113) rfl rfl (by kernel_rfl) (by kernel_rfl) (by kernel_rfl) (fun _ _ _ h => h) (Or.inl ⟨by rfl, ?hy113⟩) (by assumption) ?hR113
  case hy113 => (intro w hSw; (try dsimp only at hSw); go_simp; try rfl)
  simp only [Act.put, List.setIfInBounds_toArray, List.set_cons_zero, List.set_cons_succ]
  refine take_op (i := 16) (some 21) (v := ?v114) rfl rfl (by kernel_rfl) (by kernel_rfl) (by kernel_rfl) (fun _ _ _ h => h) (Or.inl ⟨by rfl, ?hy114⟩) (by assumption) ?hR114
  case hy114 => (intro w hSw; (try dsimp only at hSw); go_simp; try rfl)
  simp only [Act.put, List.setIfInBounds_toArray, List.set_cons_zero, List.set_cons_succ]
  refine wpAnyH_ready (rs := [2]) (by kernel_rfl) (by simp) ?_
  refine AllReadyH.cons (o := _) rfl (fun K hK => ?hC115) AllReadyH.nil
  rw [if_pos (by rfl)]
  go_simp
  go_at_call 131
  refine (factWhole_any fq _).mono ?_
  rintro e wn ⟨rfl, hbn⟩
  replace HBc := below_up HBc hbn
  replace KX := KX.below hbn
  replace KR := KR.below hbn
  clear hbn
  go_wp2_with fail
  refine hK.out _ _ ?hS115 (fun hHeld => ?hR115)
  case hS115 => exact ⟨KX.cell 9, KX.cell 10, KX.cell 11, KX.cell 12, KX.cell 13, KX.cell 14, KX.cell 15, KX.cell 16, KX.cell 17⟩
  try simp only [Act.put, List.setIfInBounds_toArray, List.set_cons_zero, List.set_cons_succ]
  refine wpAnyH_ready (rs := [5]) (by kernel_rfl) (by simp) ?_
  refine AllReadyH.cons (o := _) rfl (fun K hK => ?hC116) AllReadyH.nil
  rw [if_pos (by rfl)]
  go_simp
  go_at_call 131
  refine (factWhole_any amt _).mono ?_
  rintro e wn ⟨rfl, hbn⟩
  replace HBc := below_up HBc hbn
  replace KX := KX.below hbn
  replace KR := KR.below hbn
  clear hbn
  go_wp2_with fail
  refine hK.out _ _ ?hS116 (fun hHeld => ?hR116)
  case hS116 => exact ⟨KX.cell 9, KX.cell 10, KX.cell 11, KX.cell 12, KX.cell 13, KX.cell 14, KX.cell 15, KX.cell 16, KX.cell 17⟩
  try simp only [Act.put, List.setIfInBounds_toArray, List.set_cons_zero, List.set_cons_succ]
  refine wpAnyH_ready (rs := [8]) (by kernel_rfl) (by simp) ?_
  refine AllReadyH.cons (o := _) rfl (fun K hK => ?hC117) AllReadyH.nil
  rw [if_pos (by rfl)]
  go_simp
  go_at_call 131
  refine (factWhole_any fee _).mono ?_
  rintro e wn ⟨rfl, hbn⟩
  replace HBc := below_up HBc hbn
  replace KX := KX.below hbn
  replace KR := KR.below hbn
  clear hbn
  go_wp2_with fail
  refine hK.out _ _ ?hS117 (fun hHeld => ?hR117)
  case hS117 => exact ⟨KX.cell 9, KX.cell 10, KX.cell 11, KX.cell 12, KX.cell 13, KX.cell 14, KX.cell 15, KX.cell 16, KX.cell 17⟩
  try simp only [Act.put, List.setIfInBounds_toArray, List.set_cons_zero, List.set_cons_succ]
  refine take_op (i := 15) (some 20) (v := ?v118) rfl rfl (by kernel_rfl) (by kernel_rfl) (by kernel_rfl) (fun _ _ _ h => h) (Or.inl ⟨by rfl, ?hy118⟩) (by assumption) ?hR118
  case hy118 => (intro w hSw; (try dsimp only at hSw); go_simp; try rfl)
  simp only [Act.put, List.setIfInBounds_toArray, List.set_cons_zero, List.set_cons_succ]
  refine take_op (i := 17) (some 22) (v := ?v119) rfl rfl (by kernel_rfl) (by kernel_rfl) (by kernel_rfl) (fun _ _ _ h => h) (Or.inl ⟨by rfl, ?hy119⟩) (by assumption) ?hR119
  case hy119 => (intro w hSw; (try dsimp only at hSw); go_simp; try rfl)
  simp only [Act.put, List.setIfInBounds_toArray, List.set_cons_zero, List.set_cons_succ]
  refine wpAnyH_ready (rs := [18]) (by kernel_rfl) (by simp) ?_
  refine AllReadyH.cons (o := _) rfl (fun K hK => ?hC120) AllReadyH.nil
  rw [if_pos (by rfl)]
  have r0 := KR.cell 0
  have r1 := KR.cell 1
  have g0 := frozen_at KR.2 0
  have g1 := frozen_at KR.2 1
  go_simp
  go_wp2_with fail
  refine hK.out _ _ ?hS120 (fun hHeld => ?hR120)
  case hS120 => exact ⟨(cell_two _ _ (by omega)).trans (KX.cell 9), (cell_two _ _ (by omega)).trans (KX.cell 10), (cell_two _ _ (by omega)).trans (KX.cell 11), (cell_two _ _ (by omega)).trans (KX.cell 12), (cell_two _ _ (by omega)).trans (KX.cell 13), (cell_two _ _ (by omega)).trans (KX.cell 14), (cell_two _ _ (by omega)).trans (KX.cell 15), (cell_two _ _ (by omega)).trans (KX.cell 16), (cell_two _ _ (by omega)).trans (KX.cell 17)⟩
  try simp only [Act.put, List.setIfInBounds_toArray, List.set_cons_zero, List.set_cons_succ]
  refine wpAnyH_done (by kernel_rfl) ?_ _
  go_wp2
  exact bodyPost_ret (v := .agg #[.string ⟨share.n.toArray⟩, .string ⟨share.d.toArray⟩]) (by simp [results, Tryz.results99, go_sem, r0, r1]) rfl ⟨rfl, (HBc.setCell (p := ⟨w.heap.size + 1, 0, none⟩) (by show _ ≤ w.heap.size + 1; omega) _).setCell (p := ⟨w.heap.size + 1, 1, none⟩) (by show _ ≤ w.heap.size + 1; omega) _⟩
end Go.Proofs.YtgopbldkhlmbnaaGreatDoor
