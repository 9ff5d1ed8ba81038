/- Rem HistP Sorted -/
import Derived.Test.YtgopbldkhlmbnaaGreatDoorJNum
import Derived.Test.YtgopbldkhlmbnaaGreatDoorJWith
import Derived.Test.YtgopbldkhlmbnaaGreatDoorJOpen
import Derived.BigQuiet
section
namespace Go.Proofs.YtgopbldkhlmbnaaGreatDoor
open Go.RowKit Num
theorem wpList_rem {P : Program} (w : World) {ops : Array Oper} {rest : List Oper} {o : Oper} {a : Act} {Q : Exit → Act → World → Prop} (hg : o.guard = none) (dst : Option Tmp) (hdst : o.dst = dst) (s x : Operand) (t u : TypeId) (ho : o.op = .binOp .rem t s x u) (k : IntKind) (m n r : Int)
    (hs : a.eval s = .int k m) (hx : a.eval x = .int k n) (hn : n ≠ 0) (hr : m.tmod n = r) (h : wpList P ops Q rest (a.put dst (.int k r)) w) : wpList P ops Q (o :: rest) a w := by
  subst hdst
  refine wpList_plain hg fun K hK => ?_
  have hrun : (Go.Op.intDiv .rem k m n).run P w = .ok (.int k r) w := by
    unfold Go.Op.intDiv
    rw [if_neg hn, hr]
    rfl
  unfold Oper.wp
  simp [execOp, ho, hs, hx, Result.andThen, binOp, eqGuard, hrun]
  exact hK _ _ h
end Go.Proofs.YtgopbldkhlmbnaaGreatDoor
end
section
namespace Go.Proofs.YtgopbldkhlmbnaaGreatDoor
open Go.RowKit Num
theorem fwd_zero (fs : List FactP) (key : List UInt8) (n : Nat) : fwd fs key n 0 = (List.range n).filter (keyAt fs key) := by unfold fwd; rw [List.drop_zero]
theorem fwd_asc (fs : List FactP) (key : List UInt8) (n : Nat) : (fwd fs key n 0).Pairwise (· < ·) := by
  rw [fwd_zero]
  exact List.pairwise_lt_range.filter _
theorem fwd_mem {fs : List FactP} {key : List UInt8} {n i : Nat} : i ∈ fwd fs key n 0 ↔ i < n ∧ keyAt fs key i = true := by
  rw [fwd_zero, List.mem_filter, List.mem_range]
theorem fwd_succ (fs : List FactP) (key : List UInt8) (n : Nat) : fwd fs key (n + 1) 0 = if keyAt fs key n = true then fwd fs key n 0 ++ [n] else fwd fs key n 0 := by
  rw [fwd_zero, fwd_zero, List.range_succ, List.filter_append]
  by_cases h : keyAt fs key n = true
  · rw [if_pos h]; simp [h]
  · rw [if_neg h]; simp [h]
theorem bwd_rev (fs : List FactP) (key : List UInt8) (n : Nat) : bwd fs key n = (fwd fs key n 0).reverse := by
  induction n with
  | zero => rw [fwd_zero]; rfl
  | succ n ih =>
    rw [fwd_succ]
    unfold bwd
    by_cases h : keyAt fs key n = true
    · rw [if_pos h, if_pos h, ih, List.reverse_append]; rfl
    · rw [if_neg h, if_neg h, ih]
theorem fwd_below {fs : List FactP} {key : List UInt8} {n k : Nat} (h : k ≤ n) : ∃ r, fwd fs key n 0 = fwd fs key k 0 ++ r ∧ ∀ x, x ∈ r → k ≤ x := by
  induction n with
  | zero => obtain rfl : k = 0 := by omega
            exact ⟨[], by simp, fun x hx => by simp at hx⟩
  | succ n ih =>
    rcases Nat.lt_or_ge n k with h1 | h1
    · obtain rfl : k = n + 1 := by omega
      exact ⟨[], by simp, fun x hx => by simp at hx⟩
    · obtain ⟨r, e, hr⟩ := ih h1
      rw [fwd_succ]
      by_cases hk : keyAt fs key n = true
      · rw [if_pos hk, e]
        exact ⟨r ++ [n], by rw [List.append_assoc], fun x hx => by
          rcases List.mem_append.1 hx with hx | hx
          · exact hr x hx
          · rw [List.mem_singleton] at hx; omega⟩
      · rw [if_neg hk]
        exact ⟨r, e, hr⟩
theorem fwd_cut {fs : List FactP} {key : List UInt8} {n k : Nat} (h : k ≤ n) : ∀ (i z : Nat), (fwd fs key n 0)[i]? = some z → (i < (fwd fs key k 0).length ↔ z < k) := by
  obtain ⟨r, e, hr⟩ := fwd_below (fs := fs) (key := key) h
  intro i z hz
  rw [e] at hz
  by_cases hi : i < (fwd fs key k 0).length
  · rw [List.getElem?_append_left hi] at hz
    have := (fwd_mem.1 (List.mem_of_getElem? hz)).1
    exact ⟨fun _ => this, fun _ => hi⟩
  · rw [List.getElem?_append_right (by omega)] at hz
    have := hr z (List.mem_of_getElem? hz)
    exact ⟨fun h => absurd h hi, fun h => by omega⟩
theorem fwd_take {fs : List FactP} {key : List UInt8} {n k : Nat} (h : k ≤ n) : (fwd fs key n 0).take (fwd fs key k 0).length = fwd fs key k 0 := by
  obtain ⟨r, e, _⟩ := fwd_below (fs := fs) (key := key) h
  rw [e, List.take_left']
  rfl
theorem keyAt_take {fs : List FactP} {key : List UInt8} {k i : Nat} (h : i < k) : keyAt (fs.take k) key i = keyAt fs key i := by unfold keyAt; rw [List.getElem?_take_of_lt h]
theorem bwd_take {fs : List FactP} {key : List UInt8} {k n : Nat} (h : n ≤ k) : bwd (fs.take k) key n = bwd fs key n := by
  induction n with
  | zero => rfl
  | succ n ih =>
    unfold bwd
    rw [keyAt_take (by omega), ih (by omega)]
theorem fwd_behind {fs : List FactP} {key : List UInt8} {k i j : Nat} (hj : (fwd fs key k 0)[j]? = some i) : (fwd ((fs.take k).drop (i + 1)) key (k - (i + 1)) 0).map (fun x => i + 1 + x) = (fwd fs key k 0).drop (j + 1) := by
  have hik := (fwd_mem.1 (List.mem_of_getElem? hj)).1
  have hcut := fwd_cut (fs := fs) (key := key) (n := k) (k := i + 1) (by omega)
  obtain ⟨r, e, _⟩ := fwd_below (fs := fs) (key := key) (n := k) (k := i + 1) (by omega)
  have hl : (fwd fs key (i + 1) 0).length = j + 1 := by
    have h1 := (hcut j i hj).2 (by omega)
    have h2 : (fwd fs key (i + 1) 0).length ≤ (fwd fs key k 0).length := by rw [e, List.length_append]; omega
    rcases Nat.lt_or_ge (j + 1) (fwd fs key (i + 1) 0).length with h3 | h3
    · exfalso
      obtain ⟨z, hz⟩ : ∃ z, (fwd fs key k 0)[j + 1]? = some z := ⟨_, List.getElem?_eq_getElem (by omega)⟩
      have h4 := (hcut (j + 1) z hz).1 h3
      have h5 := List.pairwise_iff_getElem.1 (fwd_asc fs key k) j (j + 1) (List.getElem?_eq_some_iff.1 hj).1 (List.getElem?_eq_some_iff.1 hz).1 (by omega)
      rw [(List.getElem?_eq_some_iff.1 hj).2, (List.getElem?_eq_some_iff.1 hz).2] at h5
      omega
    · omega
  have hr : fwd fs key k 0 = fwd fs key (i + 1) 0 ++ (fwd ((fs.take k).drop (i + 1)) key (k - (i + 1)) 0).map (fun x => i + 1 + x) := by
    rw [fwd_zero, fwd_zero, fwd_zero]
    have e2 : List.range k = List.range (i + 1) ++ (List.range (k - (i + 1))).map (fun x => i + 1 + x) := by
      rw [← List.range_add]; congr 1; omega
    rw [e2, List.filter_append, List.filter_map]
    congr 2
    apply List.filter_congr
    intro x hx
    rw [List.mem_range] at hx
    show keyAt fs key (i + 1 + x) = _
    unfold keyAt
    rw [List.getElem?_drop, List.getElem?_take_of_lt (by omega)]
  rw [hr, List.drop_left' hl]
end Go.Proofs.YtgopbldkhlmbnaaGreatDoor
end
section
namespace Go.Proofs.YtgopbldkhlmbnaaGreatDoor
open Go Go.RowKit Num
theorem isNaN_int (x : Int) (w : World) : Calls Tryz.prog 85 #[.int .i64 x] w fun e w' => e = .returned (.bool false) ∧ w' = w := by
  go_enter Tryz.func85, Tryz.ntmps85
  go_wp2
  go_ret
  exact ⟨by simp, rfl⟩
theorem less_int (x y : Int) (w : World) : Calls Tryz.prog 57 #[.int .i64 x, .int .i64 y] w fun e w' => e = .returned (.bool (decide (x < y))) ∧ w' = w := by
  have HN : Hid (∀ z W, Calls Tryz.prog 85 #[.int .i64 z] W fun e w' => e = .returned (.bool false) ∧ w' = W) := isNaN_int
  go_enter Tryz.func57, Tryz.ntmps57
  go_wp2_with (refine (HN.out _ _).mono ?_; rintro e w' ⟨rfl, rfl⟩)
  go_ret
  exact ⟨by simp, rfl⟩
set_option maxHeartbeats 1000000 in
theorem isSorted_int (zs : List Int) (a : Option Addr) (c : Nat) (w : World) (hn : zs.length ≤ 1000000) (hz : Ints w a zs) (hs : zs.Pairwise (· ≤ ·)) :
    Calls Tryz.prog 23 #[.slice a zs.length c] w fun e w' => e = .returned (.bool true) ∧ Below w.heap.size w w' := by
  have HZ := Lib.hid hz
  have HS : Hid (∀ i x y, zs[i]? = some x → zs[i + 1]? = some y → x ≤ y) := fun i x y h1 h2 => by
    have g1 := List.getElem?_eq_some_iff.1 h1
    have g2 := List.getElem?_eq_some_iff.1 h2
    have := List.pairwise_iff_getElem.1 hs i (i + 1) g1.1 g2.1 (by omega)
    rw [g1.2, g2.2] at this
    exact this
  clear hz hs
  go_enter Tryz.func23, Tryz.ntmps23
  go_wp2_with fail
  go_loopw [3] (fun iv wr => ∃ k : Nat, k ≤ zs.length ∧ iv = .int .i64 ((k : Int) - 1) ∧ Hid (Below w.heap.size w wr)) (fun iv _ => (intOf iv).toNat)
  case atStart => exact ⟨zs.length, Nat.le_refl _, by go_num, Below.refl _ _⟩
  case round =>
    obtain ⟨k, hk, rfl, HB⟩ := hrel
    by_cases hlt : 2 ≤ k
    · obtain ⟨t, rfl⟩ : ∃ t, k = t + 2 := ⟨k - 2, by omega⟩
      have e1 : ((t + 2 : Nat) : Int) - 1 = (t : Int) + 1 := by omega
      rw [e1]
      clear e1
      obtain ⟨x, hx⟩ : ∃ x, zs[t]? = some x := ⟨_, List.getElem?_eq_getElem (by omega)⟩
      obtain ⟨y, hy⟩ : ∃ y, zs[t + 1]? = some y := ⟨_, List.getElem?_eq_getElem (by omega)⟩
      have hxy := HS.out t x y hx hy
      obtain ⟨b, off, rfl, hb, cc⟩ : ∃ b off, a = some ⟨b, off, none⟩ ∧ b < w.heap.size ∧ ∀ k z, zs[k]? = some z → w.cell? ⟨b, off + k, none⟩ = some (.int .i64 z) := HZ.out.resolve_left (fun h => by rw [h] at hx; simp at hx)
      have cx := cc t x hx
      have cy := cc (t + 1) y hy
      clear cc
      have c1 := (HB.out.cell (p := ⟨b, off + (t + 1), none⟩) hb).trans cy
      have c2 := (HB.out.cell (p := ⟨b, off + t, none⟩) hb).trans cx
      have hd : decide (y < x) = false := by simpa using hxy
      clear cx cy hx hy
      go_wp2_with fail
      go_quiet (refine Calls.quiet_of_same (less_int _ _ _))
      go_wp2
      go_roundw
      case rel => exact ⟨t + 1, by omega, by go_num, below_drewN HB.out _⟩
      case measure => simp only [intOf]; omega
    · have hk1 : (k : Int) - 1 ≤ 0 := by omega
      generalize (k : Int) - 1 = iz at *
      go_wp2
      go_ret
      exact ⟨rfl, HB.out⟩
theorem atLeast_any (x bd : Int) (bb : Nat) (T : TypeId) (w : World) (hB : Box w bb #[.int .i64 bd] T) :
    Calls Tryz.prog 27 #[.int .i64 x, .pointer (some ⟨bb, 0, none⟩)] w fun e w' => e = .returned (.bool (decide (bd ≤ x))) ∧ Below w.heap.size w w' := by
  have k1 := hB.cell 0
  clear hB
  go_enter Tryz.func27, Tryz.ntmps27
  go_wp2
  go_ret
  exact ⟨by simp, Below.refl _ _⟩
def foundV (p n : Nat) : Int := if p < n then (p : Int) else -1
set_option maxHeartbeats 1000000 in
theorem indexFunc_any (zs : List Int) (a : Option Addr) (c : Nat) (bd : Int) (bb p : Nat) (T : TypeId) (w : World) (hn : zs.length ≤ 1000000) (hz : Ints w a zs) (hB : Box w bb #[.int .i64 bd] T) (hp : p ≤ zs.length) (hc : ∀ i z, zs[i]? = some z → (i < p ↔ z < bd)) :
    Calls Tryz.prog 59 #[.slice a zs.length c, .func (.func 27) #[] #[.pointer (some ⟨bb, 0, none⟩)]] w fun e w' => e = .returned (.int .i64 (foundV p zs.length)) ∧ Below w.heap.size w w' := by
  have HZ := Lib.hid hz
  have HC := Lib.hid hc
  have HF : Hid (∀ x W, Below w.heap.size w W → Calls Tryz.prog 27 #[.int .i64 x, .pointer (some ⟨bb, 0, none⟩)] W fun e w' => e = .returned (.bool (decide (bd ≤ x))) ∧ Below W.heap.size W w') := fun x W hb => atLeast_any x bd bb T W (hB.below hb)
  clear hz hc hB
  go_enter Tryz.func59, Tryz.ntmps59
  go_wp2_with fail
  go_loopw [8] (fun iv wr => ∃ k : Nat, k ≤ p ∧ iv = .int .i64 k ∧ Hid (Below w.heap.size w wr)) (fun iv _ => zs.length - (intOf iv).toNat)
  case atStart => exact ⟨0, Nat.zero_le _, rfl, Below.refl _ _⟩
  case round =>
    obtain ⟨k, hk, rfl, HB⟩ := hrel
    by_cases hlt : k < zs.length
    · obtain ⟨x, hx⟩ : ∃ x, zs[k]? = some x := ⟨_, List.getElem?_eq_getElem hlt⟩
      have hkx := HC.out k x hx
      obtain ⟨b, off, rfl, hb, cc⟩ : ∃ b off, a = some ⟨b, off, none⟩ ∧ b < w.heap.size ∧ ∀ k z, zs[k]? = some z → w.cell? ⟨b, off + k, none⟩ = some (.int .i64 z) := HZ.out.resolve_left (fun h => by rw [h] at hx; simp at hx)
      have c1 := (HB.out.cell (p := ⟨b, off + k, none⟩) hb).trans (cc k x hx)
      clear cc hx
      by_cases hkp : k < p
      · have hxb : x < bd := hkx.1 hkp
        clear hkx
        go_wp2_with fail
        refine (HF.out x _ HB.out).mono ?_
        rintro e w1 ⟨rfl, h1⟩
        have HB1 := Lib.hid (below_up HB.out h1)
        clear h1
        go_wp2
        go_roundw
        case rel => exact ⟨k + 1, by omega, by go_num, HB1⟩
        case measure => simp [intOf]; omega
      · obtain rfl : k = p := by omega
        have hxb : bd ≤ x := by have h := fun hh => hkp (hkx.2 hh); omega
        have HV : Hid (foundV k zs.length = (k : Int)) := by show _ = _; unfold foundV; rw [if_pos hlt]
        clear hkx
        go_wp2_with fail
        refine (HF.out x _ HB.out).mono ?_
        rintro e w1 ⟨rfl, h1⟩
        have HB1 := Lib.hid (below_up HB.out h1)
        clear h1
        go_wp2
        go_ret
        exact ⟨by rw [HV.out]; rfl, HB1.out⟩
    · obtain rfl : p = zs.length := by omega
      obtain rfl : k = zs.length := by omega
      have HV : Hid (foundV zs.length zs.length = -1) := by show _ = _; unfold foundV; rw [if_neg hlt]
      go_wp2
      go_ret
      exact ⟨by rw [HV.out]; rfl, HB.out⟩
end Go.Proofs.YtgopbldkhlmbnaaGreatDoor
end
