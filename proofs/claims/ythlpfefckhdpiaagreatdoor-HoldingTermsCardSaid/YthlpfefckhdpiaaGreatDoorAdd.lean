/- integer.add, Add, Sub, Neg, Compare, Of: what they return of texts. -/
import Derived.Test.YthlpfefckhdpiaaGreatDoorText
import Derived.Deep.RegionWith
import Derived.Deep.RegionHeld3
namespace Go.Proofs.YthlpfefckhdpiaaGreatDoor
open Go.RowKit Num

theorem setCell_drewN (w : World) (n : Nat) (p : Addr) (v : Value) : (w.drewN n).setCell p v = (w.setCell p v).drewN n := rfl
attribute [local go_sem] setCell_drewN
def sgn (n : Bool) (x : Nat) : Int := if n = true then -(x : Int) else x
/-- sign and absolute value of a sum -/
def addS (nx ny : Bool) (x y : Nat) : Bool × Nat := if nx = ny then (nx, x + y) else if x < y then (ny, y - x) else (nx, x - y)
theorem addS_val (nx ny : Bool) (x y : Nat) : sgn (addS nx ny x y).1 (addS nx ny x y).2 = sgn nx x + sgn ny y := by
  unfold addS
  by_cases h : nx = ny
  · subst h; rw [if_pos rfl]; cases nx <;> simp [sgn] <;> omega
  · rw [if_neg h]
    by_cases h2 : x < y
    · rw [if_pos h2]; cases nx <;> cases ny <;> simp_all [sgn] <;> omega
    · rw [if_neg h2]; cases nx <;> cases ny <;> simp_all [sgn] <;> omega
theorem len_mono {x y : Nat} (h : x ≤ y) (hy : (groupsOf y).length ≤ 100000000000) : (groupsOf x).length ≤ 100000000000 := Nat.le_trans (len_le_of_lt h) hy

set_option maxHeartbeats 2000000 in
set_option maxRecDepth 100000 in
theorem add_same (n : Bool) (x y : Nat) (a a' : Option Addr) (cap cap' : Nat) (w : World) (h1 : (groupsOf x).length ≤ 100000000000) (h2 : (groupsOf y).length ≤ 100000000000) (hr : Row w a (gs (groupsOf x))) (hr' : Row w a' (gs (groupsOf y))) :
    Calls Tryz.prog 45 #[.agg #[.bool n, .slice a (groupsOf x).length cap], .agg #[.bool n, .slice a' (groupsOf y).length cap']] w fun e w' => ∃ b c, e = .returned (.agg #[.bool n, .slice b (groupsOf (x + y)).length c]) ∧ (groupsOf (x + y)).length ≤ c ∧ Fresh w.heap.size b ∧ Row w' b (gs (groupsOf (x + y))) ∧ Below w.heap.size w w' := by
  have HP := Lib.hid (fun W (hW : Below w.heap.size w W) => plus_any x y a a' cap cap' W (by omega) (by omega) (hr.below hW) (hr'.below hW))
  generalize (groupsOf x).length = lx at *
  generalize (groupsOf y).length = ly at *
  have HR := Lib.hid (And.intro hr hr')
  clear hr hr'
  have HB := Lib.hid (fun o1 o2 o3 n => show Below w.heap.size w ((((w.alloc o1).alloc o2).alloc o3).drewN n) from below_drewN ((((Below.refl _ _).alloc (Nat.le_refl _) _).alloc (by simp) _).alloc (by simp; omega) _) n)
  go_enter Tryz.func45, Tryz.ntmps45
  go_wp2
  go_region_held3 (fun W => W.cell? ⟨w.heap.size, 0, none⟩ = some (.bool n) ∧ W.cell? ⟨w.heap.size, 1, none⟩ = some (.slice a lx cap) ∧ W.cell? ⟨w.heap.size + 1, 1, none⟩ = some (.slice a' ly cap')) (first | exact ⟨k0, k1, k2⟩ | exact ⟨(cell_two _ _ (by omega)).trans k0, (cell_two _ _ (by omega)).trans k1, (cell_two _ _ (by omega)).trans k2⟩ | go_keep)
    (first | (go_at_call 79; refine (HP.out _ (HB.out _ _ _ 1)).mono ?_; rintro e w1 ⟨b1, c1, rfl, hc1, hf1, hr1, hb1⟩; have hb2 : w.heap.size + 3 ≤ b1 := (by simp at hf1; omega); obtain ⟨q1, q2, q3⟩ := boxes3 (n := 1) hb1; have k0 := cell_at q1 0; have k1 := cell_at q1 1; have k2 := cell_at q2 1; have k3 := cell_at q3 0; have k4 := cell_at q3 1; have f3 := frozen_at q3 0; have f4 := frozen_at q3 1; have Q3 := Lib.hid q3; clear q1 q2 q3))
  have HR1 := Lib.hid hr1
  clear hr1 hf1
  go_wp2
  refine bodyPost_ret (v := .agg #[.bool n, .slice (some ⟨b1, 0, none⟩) (groupsOf (x + y)).length c1]) (by simp [results, Tryz.results45, go_sem, k3, k4]) rfl ⟨some ⟨b1, 0, none⟩, c1, rfl, hc1, Fresh.of (by omega), ?_, ?_⟩
  · exact (HR1.out.setCell (p := ⟨w.heap.size + 1 + 1, 0, none⟩) (fun b off hb => by injection hb with hb; injection hb with hb; show b ≠ w.heap.size + 1 + 1; omega) _).setCell (p := ⟨w.heap.size + 1 + 1, 1, none⟩) (fun b off hb => by injection hb with hb; injection hb with hb; show b ≠ w.heap.size + 1 + 1; omega) _
  · exact (((HB.out _ _ _ 1).trans (hb1.mono (by show w.heap.size ≤ (((w.alloc _).alloc _).alloc _).heap.size; simp; omega))).setCell (p := ⟨w.heap.size + 1 + 1, 0, none⟩) (by show w.heap.size ≤ w.heap.size + 1 + 1; omega) _).setCell (p := ⟨w.heap.size + 1 + 1, 1, none⟩) (by show w.heap.size ≤ w.heap.size + 1 + 1; omega) _

set_option maxHeartbeats 2000000 in
set_option maxRecDepth 100000 in
theorem add_ge (nx ny : Bool) (hne : nx ≠ ny) (x y : Nat) (a a' : Option Addr) (cap cap' : Nat) (w : World) (hxy : y ≤ x) (h1 : (groupsOf x).length ≤ 100000000000) (h2 : (groupsOf y).length ≤ 100000000000) (hr : Row w a (gs (groupsOf x))) (hr' : Row w a' (gs (groupsOf y))) :
    Calls Tryz.prog 45 #[.agg #[.bool nx, .slice a (groupsOf x).length cap], .agg #[.bool ny, .slice a' (groupsOf y).length cap']] w fun e w' => ∃ b c, e = .returned (.agg #[.bool nx, .slice b (groupsOf (x - y)).length c]) ∧ (groupsOf (x - y)).length ≤ c ∧ Fresh w.heap.size b ∧ Row w' b (gs (groupsOf (x - y))) ∧ Below w.heap.size w w' := by
  have HC := Lib.hid (fun W (hW : Below w.heap.size w W) => compare_any (groupsOf x) (groupsOf y) a a' cap cap' W (by omega) (by omega) (groupsOf_lt x) (groupsOf_lt y) (hr.below hW) (hr'.below hW))
  have HP := Lib.hid (fun W (hW : Below w.heap.size w W) => minus_any x y a a' cap cap' W hxy (by omega) (hr.below hW) (hr'.below hW))
  have hcv := (show ¬ cmpV (groupsOf x) (groupsOf y) < 0 by rw [cmpV_lt_iff]; omega)
  have hne' : (nx == ny) = false := by simpa using hne
  generalize cmpV (groupsOf x) (groupsOf y) = cv at *
  generalize (groupsOf x).length = lx at *
  generalize (groupsOf y).length = ly at *
  have HR := Lib.hid (And.intro hr hr')
  clear hr hr' hne
  have HB := Lib.hid (fun o1 o2 o3 n => show Below w.heap.size w ((((w.alloc o1).alloc o2).alloc o3).drewN n) from below_drewN ((((Below.refl _ _).alloc (Nat.le_refl _) _).alloc (by simp) _).alloc (by simp; omega) _) n)
  go_enter Tryz.func45, Tryz.ntmps45
  go_wp2_with (go_at_call 80; refine (HC.out _ (HB.out _ _ _ 0)).mono ?_; rintro e w1 ⟨rfl, q, rfl⟩)
  go_region_held3 (fun W => W.cell? ⟨w.heap.size, 0, none⟩ = some (.bool nx) ∧ W.cell? ⟨w.heap.size, 1, none⟩ = some (.slice a lx cap) ∧ W.cell? ⟨w.heap.size + 1, 1, none⟩ = some (.slice a' ly cap')) (first | exact ⟨k0, k1, k2⟩ | exact ⟨(cell_two _ _ (by omega)).trans k0, (cell_two _ _ (by omega)).trans k1, (cell_two _ _ (by omega)).trans k2⟩ | go_keep)
    (first | (go_at_call 81; refine (HP.out _ (HB.out _ _ _ (q + 1))).mono ?_; rintro e w1 ⟨b1, c1, rfl, hc1, hf1, hr1, hb1⟩; replace hf1 : Fresh (w.heap.size + 3) b1 := (hf1.mono (by show w.heap.size + 3 ≤ (((w.alloc _).alloc _).alloc _).heap.size; simp)); obtain ⟨q1, q2, q3⟩ := boxes3 (n := q + 1) hb1; have k0 := cell_at q1 0; have k1 := cell_at q1 1; have k2 := cell_at q2 1; have k3 := cell_at q3 0; have k4 := cell_at q3 1; have f3 := frozen_at q3 0; have f4 := frozen_at q3 1; have Q3 := Lib.hid q3; clear q1 q2 q3))
  have HR1 := Lib.hid hr1
  have HF1 := Lib.hid hf1
  clear hr1 hf1
  go_wp2
  refine bodyPost_ret (v := .agg #[.bool nx, .slice b1 (groupsOf (x - y)).length c1]) (by simp [results, Tryz.results45, go_sem, k3, k4]) rfl ⟨b1, c1, rfl, hc1, HF1.out.mono (by omega), ?_, ?_⟩
  · exact (HR1.out.setCell (p := ⟨w.heap.size + 1 + 1, 0, none⟩) (fun b off hb => by have := HF1.out b off hb; show b ≠ w.heap.size + 1 + 1; omega) _).setCell (p := ⟨w.heap.size + 1 + 1, 1, none⟩) (fun b off hb => by have := HF1.out b off hb; show b ≠ w.heap.size + 1 + 1; omega) _
  · exact (((HB.out _ _ _ (q + 1)).trans (hb1.mono (by show w.heap.size ≤ (((w.alloc _).alloc _).alloc _).heap.size; simp; omega))).setCell (p := ⟨w.heap.size + 1 + 1, 0, none⟩) (by show w.heap.size ≤ w.heap.size + 1 + 1; omega) _).setCell (p := ⟨w.heap.size + 1 + 1, 1, none⟩) (by show w.heap.size ≤ w.heap.size + 1 + 1; omega) _

set_option maxHeartbeats 2000000 in
set_option maxRecDepth 100000 in
theorem add_lt (nx ny : Bool) (hne : nx ≠ ny) (x y : Nat) (a a' : Option Addr) (cap cap' : Nat) (w : World) (hxy : x < y) (h1 : (groupsOf x).length ≤ 100000000000) (h2 : (groupsOf y).length ≤ 100000000000) (hr : Row w a (gs (groupsOf x))) (hr' : Row w a' (gs (groupsOf y))) :
    Calls Tryz.prog 45 #[.agg #[.bool nx, .slice a (groupsOf x).length cap], .agg #[.bool ny, .slice a' (groupsOf y).length cap']] w fun e w' => ∃ b c, e = .returned (.agg #[.bool ny, .slice b (groupsOf (y - x)).length c]) ∧ (groupsOf (y - x)).length ≤ c ∧ Fresh w.heap.size b ∧ Row w' b (gs (groupsOf (y - x))) ∧ Below w.heap.size w w' := by
  have HC := Lib.hid (fun W (hW : Below w.heap.size w W) => compare_any (groupsOf x) (groupsOf y) a a' cap cap' W (by omega) (by omega) (groupsOf_lt x) (groupsOf_lt y) (hr.below hW) (hr'.below hW))
  have HP := Lib.hid (fun W (hW : Below w.heap.size w W) => minus_any y x a' a cap' cap W (by omega) (by omega) (hr'.below hW) (hr.below hW))
  have hcv := (show cmpV (groupsOf x) (groupsOf y) < 0 by rw [cmpV_lt_iff]; omega)
  have hne' : (nx == ny) = false := by simpa using hne
  generalize cmpV (groupsOf x) (groupsOf y) = cv at *
  generalize (groupsOf x).length = lx at *
  generalize (groupsOf y).length = ly at *
  have HR := Lib.hid (And.intro hr hr')
  clear hr hr' hne
  have HB := Lib.hid (fun o1 o2 o3 n => show Below w.heap.size w ((((w.alloc o1).alloc o2).alloc o3).drewN n) from below_drewN ((((Below.refl _ _).alloc (Nat.le_refl _) _).alloc (by simp) _).alloc (by simp; omega) _) n)
  go_enter Tryz.func45, Tryz.ntmps45
  go_wp2_with (go_at_call 80; refine (HC.out _ (HB.out _ _ _ 0)).mono ?_; rintro e w1 ⟨rfl, q, rfl⟩)
  go_region_held3 (fun W => W.cell? ⟨w.heap.size, 0, none⟩ = some (.bool ny) ∧ W.cell? ⟨w.heap.size, 1, none⟩ = some (.slice a' ly cap') ∧ W.cell? ⟨w.heap.size + 1, 1, none⟩ = some (.slice a lx cap)) (first | exact ⟨k0, k1, k2⟩ | exact ⟨(cell_two _ _ (by omega)).trans k0, (cell_two _ _ (by omega)).trans k1, (cell_two _ _ (by omega)).trans k2⟩ | go_keep)
    (first | (go_at_call 81; refine (HP.out _ (HB.out _ _ _ (q + 1))).mono ?_; rintro e w1 ⟨b1, c1, rfl, hc1, hf1, hr1, hb1⟩; replace hf1 : Fresh (w.heap.size + 3) b1 := (hf1.mono (by show w.heap.size + 3 ≤ (((w.alloc _).alloc _).alloc _).heap.size; simp)); obtain ⟨q1, q2, q3⟩ := boxes3 (n := q + 1) hb1; have k0 := cell_at q1 0; have k1 := cell_at q1 1; have k2 := cell_at q2 1; have k3 := cell_at q3 0; have k4 := cell_at q3 1; have f3 := frozen_at q3 0; have f4 := frozen_at q3 1; have Q3 := Lib.hid q3; clear q1 q2 q3))
  have HR1 := Lib.hid hr1
  have HF1 := Lib.hid hf1
  clear hr1 hf1
  go_wp2
  refine bodyPost_ret (v := .agg #[.bool ny, .slice b1 (groupsOf (y - x)).length c1]) (by simp [results, Tryz.results45, go_sem, k3, k4]) rfl ⟨b1, c1, rfl, hc1, HF1.out.mono (by omega), ?_, ?_⟩
  · exact (HR1.out.setCell (p := ⟨w.heap.size + 1 + 1, 0, none⟩) (fun b off hb => by have := HF1.out b off hb; show b ≠ w.heap.size + 1 + 1; omega) _).setCell (p := ⟨w.heap.size + 1 + 1, 1, none⟩) (fun b off hb => by have := HF1.out b off hb; show b ≠ w.heap.size + 1 + 1; omega) _
  · exact (((HB.out _ _ _ (q + 1)).trans (hb1.mono (by show w.heap.size ≤ (((w.alloc _).alloc _).alloc _).heap.size; simp; omega))).setCell (p := ⟨w.heap.size + 1 + 1, 0, none⟩) (by show w.heap.size ≤ w.heap.size + 1 + 1; omega) _).setCell (p := ⟨w.heap.size + 1 + 1, 1, none⟩) (by show w.heap.size ≤ w.heap.size + 1 + 1; omega) _

theorem addN_any (nx ny : Bool) (x y : Nat) (a a' : Option Addr) (cap cap' : Nat) (w : World) (h1 : (groupsOf x).length ≤ 100000000000) (h2 : (groupsOf y).length ≤ 100000000000) (hr : Row w a (gs (groupsOf x))) (hr' : Row w a' (gs (groupsOf y))) :
    Calls Tryz.prog 45 #[.agg #[.bool nx, .slice a (groupsOf x).length cap], .agg #[.bool ny, .slice a' (groupsOf y).length cap']] w fun e w' => ∃ b c, e = .returned (.agg #[.bool (addS nx ny x y).1, .slice b (groupsOf (addS nx ny x y).2).length c]) ∧ (groupsOf (addS nx ny x y).2).length ≤ c ∧ Fresh w.heap.size b ∧ Row w' b (gs (groupsOf (addS nx ny x y).2)) ∧ Below w.heap.size w w' := by
  by_cases h : nx = ny
  · subst h
    have e : addS nx nx x y = (nx, x + y) := by unfold addS; rw [if_pos rfl]
    rw [e]
    exact add_same nx x y a a' cap cap' w h1 h2 hr hr'
  · by_cases h3 : x < y
    · have e : addS nx ny x y = (ny, y - x) := by unfold addS; rw [if_neg h, if_pos h3]
      rw [e]
      exact add_lt nx ny h x y a a' cap cap' w h3 h1 h2 hr hr'
    · have e : addS nx ny x y = (nx, x - y) := by unfold addS; rw [if_neg h, if_neg h3]
      rw [e]
      exact add_ge nx ny h x y a a' cap cap' w (by omega) h1 h2 hr hr'

theorem val_sgn (l : List UInt8) : val l = sgn (negs l) (nat (digs l)) := rfl
theorem txt_add (nx ny : Bool) (x y : Nat) : txt (addS nx ny x y).1 (addS nx ny x y).2 = canon (sgn nx x + sgn ny y) := by
  rw [txt_canon, ← addS_val]; rfl
theorem groups_le (l : List UInt8) : (groupsOf (nat (digs l))).length ≤ l.length := by
  refine Nat.le_trans ?_ (digs_le l)
  by_cases h : groupsOf (nat (digs l)) = []
  · rw [h]; exact Nat.zero_le _
  · have h1 := len_lt (groupsOf_norm (nat (digs l))) h
    rw [gval_groupsOf] at h1
    have h2 := nat_lt (digs l) (digs_dig l)
    have e9 : (1000000000 : Nat) = 10 ^ 9 := by decide
    rw [e9, ← Nat.pow_mul] at h1
    have h3 := (Nat.pow_lt_pow_iff_right (a := 10) (by decide)).1 (Nat.lt_of_le_of_lt h1 h2)
    have := List.length_pos_iff.2 h
    omega
theorem addS_le (nx ny : Bool) (x y : Nat) : (addS nx ny x y).2 ≤ x + y := by
  unfold addS; split
  · simp
  · split <;> simp <;> omega
theorem plus_len (x y : Nat) : (groupsOf (x + y)).length ≤ (groupsOf x).length + (groupsOf y).length + 1 := by
  by_cases h : groupsOf (x + y) = []
  · rw [h]; simp
  · have h1 := len_lt (groupsOf_norm (x + y)) h
    rw [gval_groupsOf] at h1
    have h2 := gval_lt (groupsOf_lt x)
    have h3 := gval_lt (groupsOf_lt y)
    rw [gval_groupsOf] at h2 h3
    rcases Nat.lt_or_ge ((groupsOf x).length + (groupsOf y).length) ((groupsOf (x + y)).length - 1) with g | g
    · exfalso
      have h4 : 1000000000 ^ ((groupsOf x).length + (groupsOf y).length + 1) ≤ 1000000000 ^ ((groupsOf (x + y)).length - 1) := Nat.pow_le_pow_right (by decide) (by omega)
      have h5 : 1000000000 ^ (groupsOf x).length ≤ 1000000000 ^ ((groupsOf x).length + (groupsOf y).length) := Nat.pow_le_pow_right (by decide) (by omega)
      have h6 : 1000000000 ^ (groupsOf y).length ≤ 1000000000 ^ ((groupsOf x).length + (groupsOf y).length) := Nat.pow_le_pow_right (by decide) (by omega)
      rw [Nat.pow_succ] at h4
      omega
    · omega

set_option maxHeartbeats 1000000 in
set_option maxRecDepth 100000 in
theorem Add_any (l m : List UInt8) (w : World) (hE : Env w) (hl : l.length ≤ 10000000000) (hm : m.length ≤ 10000000000) :
    Calls Tryz.prog 15 #[.string ⟨l.toArray⟩, .string ⟨m.toArray⟩] w fun e w' => e = .returned (.string ⟨(canon (val l + val m)).toArray⟩) ∧ Below w.heap.size w w' := by
  have H1 := Lib.hid (fun W => read_any l W (by omega))
  have H2 := Lib.hid (fun W => read_any m W (by omega))
  have g1 := groups_le l
  have g2 := groups_le m
  rw [val_sgn l, val_sgn m, ← txt_add]
  generalize nat (digs l) = x at *
  generalize nat (digs m) = y at *
  generalize negs l = nx at *
  generalize negs m = ny at *
  have hal := addS_le nx ny x y
  have hpl := plus_len x y
  have HG := Lib.hid (And.intro g1 (And.intro g2 (And.intro (len_le_of_lt hal) hpl)))
  have H3 := Lib.hid (addN_any nx ny x y)
  have HE := Lib.hid hE
  clear hE g1 g2 hal hpl
  generalize addS nx ny x y = r at *
  go_enter Tryz.func15, Tryz.ntmps15
  go_wp2_with fail
  refine (H1.out _).mono ?_
  rintro e w1 ⟨a, c, rfl, hc, hf, hr, hb⟩
  go_wp2_with fail
  refine (H2.out _).mono ?_
  rintro e w2 ⟨a', c', rfl, hc', hf', hr', hb'⟩
  go_wp2_with fail
  refine (H3.out a a' c c' _ (by have := HG.out; omega) (by have := HG.out; omega) (hr.below hb') hr').mono ?_
  rintro e w3 ⟨a2, c2, rfl, hc2, hf2, hr2, hb2⟩
  go_wp2_with fail
  refine (text_any r.2 r.1 a2 c2 _ (HE.out.below (below_up (below_up hb hb') hb2)) hc2 (by have := HG.out; omega) hr2).mono ?_
  rintro e w4 ⟨rfl, hb3⟩
  go_wp2
  go_ret
  exact ⟨rfl, below_up (below_up (below_up hb hb') hb2) hb3⟩
end Go.Proofs.YthlpfefckhdpiaaGreatDoor
