/- integer.Sub, Compare, Of: what they return of texts. -/
import Derived.Test.YthlpfefckhdpiaaGreatDoorAdd
namespace Go.Proofs.YthlpfefckhdpiaaGreatDoor
open Go.RowKit Num
attribute [local go_sem] setCell_drewN

theorem sgn_not (n : Bool) (x : Nat) : sgn (!n) x = -sgn n x := by cases n <;> simp [sgn]
set_option maxHeartbeats 1000000 in
set_option maxRecDepth 100000 in
theorem Sub_any (l m : List UInt8) (w : World) (hE : Env w) (hl : l.length ≤ 10000000000) (hm : m.length ≤ 10000000000) :
    Calls Tryz.prog 32 #[.string ⟨l.toArray⟩, .string ⟨m.toArray⟩] w fun e w' => e = .returned (.string ⟨(canon (val l - val m)).toArray⟩) ∧ Below w.heap.size w w' := by
  have H1 := Lib.hid (fun W => read_any l W (by omega))
  have H2 := Lib.hid (fun W => read_any m W (by omega))
  have g1 := groups_le l
  have g2 := groups_le m
  rw [val_sgn l, val_sgn m, Int.sub_eq_add_neg, ← sgn_not, ← txt_add]
  generalize nat (digs l) = x at *
  generalize nat (digs m) = y at *
  generalize negs l = nx at *
  generalize negs m = ny at *
  have hal := addS_le nx (!ny) x y
  have hpl := plus_len x y
  have HG := Lib.hid (And.intro g1 (And.intro g2 (And.intro (len_le_of_lt hal) hpl)))
  have H3 := Lib.hid (addN_any nx (!ny) x y)
  have HE := Lib.hid hE
  clear hE g1 g2 hal hpl
  generalize addS nx (!ny) x y = r at *
  go_enter Tryz.func32, Tryz.ntmps32
  go_wp2_with fail
  refine (H2.out _).mono ?_
  rintro e w2 ⟨a', c', rfl, hc', hf', hr', hb'⟩
  have HR' := Lib.hid hr'
  clear hr'
  go_wp2_with fail
  have HX := Lib.hid (fun o n w1 (hb : Below ((w2.alloc o).drewN n).heap.size ((w2.alloc o).drewN n) w1) => (HR'.out.below (below_drewN ((Below.refl _ _).alloc (Nat.le_refl _) _) n)).below hb)
  have HW := Lib.hid (fun o n => show Below w.heap.size w ((w2.alloc o).drewN n) from below_up hb' (below_drewN ((Below.refl _ _).alloc (Nat.le_refl _) _) n))
  go_region_held3 (fun W => W.cell? ⟨w2.heap.size, 0, none⟩ = some (.bool !ny) ∧ W.cell? ⟨w2.heap.size, 1, none⟩ = some (.slice a' (groupsOf y).length c')) (first | exact ⟨k0, k1⟩ | exact ⟨(hb2.cell hk).trans k0, (hb2.cell hk).trans k1⟩ | exact ⟨(hb3.cell (p := ⟨w2.heap.size, 0, none⟩) hk2).trans ((hb2.cell hk).trans k0), (hb3.cell (p := ⟨w2.heap.size, 1, none⟩) hk2).trans ((hb2.cell hk).trans k1)⟩ | go_keep)
    (first | (go_at_call 46; refine (H1.out _).mono ?_; rintro e w1 ⟨a, c, rfl, hc, hf, hr, hb⟩; have q1 := boxes1 (n := 1) hb; have k0 := cell_at q1 0; have k1 := cell_at q1 1; have hk : w2.heap.size < w1.heap.size := (Array.getElem?_eq_some_iff.1 q1).1; have hr1 := HX.out _ 1 _ hb; have hbw1 := below_up (HW.out _ 1) hb; clear q1 hb) | (go_at_call 45; refine (H3.out a a' c c' _ (by have := HG.out; omega) (by have := HG.out; omega) hr hr1).mono ?_; rintro e w3 ⟨a2, c2, rfl, hc2, hf2, hr2, hb2⟩; have hk2 : w2.heap.size < w3.heap.size := Nat.lt_of_lt_of_le hk hb2.size) | (go_at_call 47; refine (text_any r.2 r.1 a2 c2 _ (HE.out.below (below_up hbw1 hb2)) hc2 (by have := HG.out; omega) hr2).mono ?_; rintro e w4 ⟨rfl, hb3⟩))
  go_wp2
  go_ret
  exact ⟨rfl, below_up (below_up hbw1 hb2) hb3⟩

/-- what Compare returns -/
def cmpI (a b : Int) : Int := if a < b then -1 else if b < a then 1 else 0
theorem cmp_same {n : Bool} {x y : Nat} {cv : Int} (h : (x < y → cv < 0) ∧ (x = y → cv = 0) ∧ (y < x → 0 < cv)) :
    max (-1) (min (if n = true then -cv else cv) 1) = cmpI (sgn n x) (sgn n y) := by
  obtain ⟨h1, h2, h3⟩ := h
  unfold cmpI sgn
  cases n
  · simp only [Bool.false_eq_true, if_false]
    rcases Nat.lt_trichotomy x y with h | h | h
    · rw [if_pos (by omega)]; have := h1 h; omega
    · rw [if_neg (by omega), if_neg (by omega)]; have := h2 h; omega
    · rw [if_neg (by omega), if_pos (by omega)]; have := h3 h; omega
  · simp only [if_true]
    rcases Nat.lt_trichotomy x y with h | h | h
    · rw [if_neg (by omega), if_pos (by omega)]; have := h1 h; omega
    · rw [if_neg (by omega), if_neg (by omega)]; have := h2 h; omega
    · rw [if_pos (by omega)]; have := h3 h; omega
theorem negs_pos {l : List UInt8} (h : negs l = true) : 0 < nat (digs l) := by
  have h1 : digs l ≠ [] := by unfold negs at h; simp at h; exact h.2
  have := (not_congr (digs_nil_iff l)).1 h1
  omega

set_option maxHeartbeats 1000000 in
set_option maxRecDepth 100000 in
theorem Compare_any (l m : List UInt8) (w : World) (hl : l.length ≤ 10000000000) (hm : m.length ≤ 10000000000) :
    Calls Tryz.prog 106 #[.string ⟨l.toArray⟩, .string ⟨m.toArray⟩] w fun e w' => e = .returned (.int .i64 (cmpI (val l) (val m))) ∧ Below w.heap.size w w' := by
  have H1 := Lib.hid (fun W => read_any l W (by omega))
  have H2 := Lib.hid (fun W => read_any m W (by omega))
  have g1 := groups_le l
  have g2 := groups_le m
  have p1 := fun h => negs_pos (l := l) h
  have p2 := fun h => negs_pos (l := m) h
  rw [val_sgn l, val_sgn m]
  generalize nat (digs l) = x at *
  generalize nat (digs m) = y at *
  generalize negs l = nx at *
  generalize negs m = ny at *
  have H3 := Lib.hid (compare_any (groupsOf x) (groupsOf y))
  have hcv := cmpV_groups x y
  have hcb : -10000000001 ≤ cmpV (groupsOf x) (groupsOf y) ∧ cmpV (groupsOf x) (groupsOf y) ≤ 10000000001 := by
    unfold cmpV
    split
    · split
      · omega
      · split <;> omega
    · omega
  generalize cmpV (groupsOf x) (groupsOf y) = cv at *
  obtain ⟨hcb1, hcb2⟩ := hcb
  have HV := Lib.hid (And.intro hcv (And.intro p1 p2))
  clear hcv p1 p2
  by_cases hn : nx = ny
  · subst hn
    have HF := Lib.hid (cmp_same (n := nx) HV.out.1)
    cases nx
    all_goals
      go_enter Tryz.func106, Tryz.ntmps106
      go_wp2_with fail
      refine (H1.out _).mono ?_
      rintro e w1 ⟨a, c, rfl, hc, hf, hr, hb⟩
      go_wp2_with fail
      refine (H2.out _).mono ?_
      rintro e w2 ⟨a', c', rfl, hc', hf', hr', hb'⟩
      have HB := Lib.hid (fun o1 o2 => show Below w2.heap.size w2 ((w2.alloc o1).alloc o2) from ((Below.refl _ _).alloc (Nat.le_refl _) _).alloc (by simp) _)
      have HR := Lib.hid (And.intro (hr.below hb') hr')
      clear hr hr'
      go_wp2_with (go_at_call 80; refine (H3.out a a' c c' _ (by omega) (by omega) (groupsOf_lt x) (groupsOf_lt y) (HR.out.1.below (HB.out _ _)) (HR.out.2.below (HB.out _ _))).mono ?_; rintro e w3 ⟨rfl, q, rfl⟩)
      go_ret
      refine ⟨ret_int ?_, below_drewN (below_up (below_up hb hb') (HB.out _ _)) q⟩
      rw [← HF.out]
      simp
      try omega
  · have hn' : (nx != ny) = true := by simpa using hn
    cases nx
    · have hny : ny = true := by simpa using hn
      subst hny
      have HF : Hid (cmpI (sgn false x) (sgn true y) = 1) := by
        have := HV.out.2.2 rfl
        show cmpI _ _ = 1
        unfold cmpI sgn
        simp only [Bool.false_eq_true, if_false, if_true]
        rw [if_neg (by omega), if_pos (by omega)]
      clear hn hn'
      go_enter Tryz.func106, Tryz.ntmps106
      go_wp2_with fail
      refine (H1.out _).mono ?_
      rintro e w1 ⟨a, c, rfl, hc, hf, hr, hb⟩
      go_wp2_with fail
      refine (H2.out _).mono ?_
      rintro e w2 ⟨a', c', rfl, hc', hf', hr', hb'⟩
      have HB := Lib.hid (fun o1 o2 => show Below w2.heap.size w2 ((w2.alloc o1).alloc o2) from ((Below.refl _ _).alloc (Nat.le_refl _) _).alloc (by simp) _)
      have HR := Lib.hid (And.intro (hr.below hb') hr')
      clear hr hr'
      go_wp2_with (go_at_call 80; refine (H3.out a a' c c' _ (by omega) (by omega) (groupsOf_lt x) (groupsOf_lt y) (HR.out.1.below (HB.out _ _)) (HR.out.2.below (HB.out _ _))).mono ?_; rintro e w3 ⟨rfl, q, rfl⟩)
      go_ret
      refine ⟨ret_int ?_, below_drewN (below_up (below_up hb hb') (HB.out _ _)) q⟩
      rw [HF.out]
      try simp
      try omega
    · have hny : ny = false := by simpa using hn
      subst hny
      have HF : Hid (cmpI (sgn true x) (sgn false y) = -1) := by
        have := HV.out.2.1 rfl
        show cmpI _ _ = -1
        unfold cmpI sgn
        simp only [Bool.false_eq_true, if_false, if_true]
        rw [if_pos (by omega)]
      clear hn hn'
      go_enter Tryz.func106, Tryz.ntmps106
      go_wp2_with fail
      refine (H1.out _).mono ?_
      rintro e w1 ⟨a, c, rfl, hc, hf, hr, hb⟩
      go_wp2_with fail
      refine (H2.out _).mono ?_
      rintro e w2 ⟨a', c', rfl, hc', hf', hr', hb'⟩
      have HB := Lib.hid (fun o1 o2 => show Below w2.heap.size w2 ((w2.alloc o1).alloc o2) from ((Below.refl _ _).alloc (Nat.le_refl _) _).alloc (by simp) _)
      have HR := Lib.hid (And.intro (hr.below hb') hr')
      clear hr hr'
      go_wp2_with (go_at_call 80; refine (H3.out a a' c c' _ (by omega) (by omega) (groupsOf_lt x) (groupsOf_lt y) (HR.out.1.below (HB.out _ _)) (HR.out.2.below (HB.out _ _))).mono ?_; rintro e w3 ⟨rfl, q, rfl⟩)
      go_ret
      refine ⟨ret_int ?_, below_drewN (below_up (below_up hb hb') (HB.out _ _)) q⟩
      rw [HF.out]
      try simp
      try omega

theorem val_itoa (n : Int) : val (Lib.itoa n) = n := by
  unfold Lib.itoa
  split
  · rename_i h
    have : 45 :: Lib.decDigits n.natAbs = canon n := by unfold canon; rw [if_pos h]
    rw [this, val_canon]
  · rename_i h
    by_cases h0 : n = 0
    · subst h0
      rw [show Lib.decDigits (0 : Int).toNat = [48] by rw [Lib.decDigits]; simp]
      decide
    · have : Lib.decDigits n.toNat = canon n := by unfold canon canonN; rw [if_neg h, if_neg (by omega)]
      rw [this, val_canon]
theorem Of_any (n : Int) (h0 : -9223372036854775808 ≤ n) (h1 : n ≤ 9223372036854775807) (w : World) (hE : Env w) :
    Calls Tryz.prog 108 #[.int .i64 n] w fun e w' => e = .returned (.string ⟨(canon n).toArray⟩) ∧ Below w.heap.size w w' := by
  have hlen : (Lib.itoa n).length ≤ 100 := by
    unfold Lib.itoa
    have h20 : ∀ u : Nat, u < 10 ^ 20 → (Lib.decDigits u).length ≤ 20 := fun u hu => by rw [Lib.decDigits_length]; exact nDigits_le u 20 (by decide) hu
    split
    · have := h20 n.natAbs (by omega)
      simp; omega
    · have := h20 n.toNat (by omega)
      omega
  have H1 := Lib.hid (itoa_any n h0 h1 w hE)
  have H2 := Lib.hid (fun W => Canonical_any (Lib.itoa n) W (by omega))
  rw [val_itoa] at H2
  clear hlen
  go_enter Tryz.func108, Tryz.ntmps108
  go_wp2_with (first | (go_at_call 141; refine H1.out.mono ?_; rintro e w1 ⟨rfl, hb1⟩) | (go_at_call 144; refine (H2.out _).mono ?_; rintro e w2 ⟨rfl, hb2⟩))
  go_ret
  exact ⟨rfl, below_up hb1 hb2⟩
end Go.Proofs.YthlpfefckhdpiaaGreatDoor
