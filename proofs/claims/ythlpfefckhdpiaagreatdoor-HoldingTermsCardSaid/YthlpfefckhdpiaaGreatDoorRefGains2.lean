/- trancheref23 over gains: realized, Sums, Terms; Same and SameTerms of equal lists. -/
import Derived.Test.YthlpfefckhdpiaaGreatDoorRefGains
namespace Go.Proofs.YthlpfefckhdpiaaGreatDoor
open Go.RowKit Num Dt
attribute [local go_sem] str_append str_extract str_size setCell_drewN

set_option maxHeartbeats 2000000 in
set_option maxRecDepth 100000 in
theorem r23realized_any (gs : List GainP) (a : Option Addr) (c : Nat) (w : World) (hn : gs.length ≤ 12) (hw : Gains w a gs) (hs : ∀ x, x ∈ gs → x.small) :
    Calls Tryz.prog 63 #[.slice a gs.length c] w fun e w' => e = .returned (.string ⟨(canon (sumOf GainP.realT gs)).toArray⟩) ∧ Below w.heap.size w w' := by
  have HA1 := Lib.hid (fun k => sumOf_abs_take (f := GainP.realT) (M := 30000000000000) (fun x hx => real_abs (hs x hx)) hn k)
  have HW := Lib.hid hw
  have HS := Lib.hid hs
  clear hw hs
  go_enter Tryz.func63, Tryz.ntmps63
  go_wp2
  go_loopw [3, 4] (fun t i W => Hid (Below w.heap.size w W) ∧ ∃ k : Nat, k ≤ gs.length ∧ i = .int .i64 (k : Int) ∧ ∃ st : List UInt8, t = .string ⟨st.toArray⟩ ∧ Hid (st = canon (sumOf GainP.realT (gs.take k))) ∧ st.length ≤ 2000 + 2 * k) (fun _ i _ => gs.length - (intOf i).toNat)
  case atStart => exact ⟨Below.refl _ _, 0, Nat.zero_le _, rfl, [], rfl, rfl, by simp⟩
  case round =>
    obtain ⟨hB, k, hk, rfl, st, rfl, hst, hsl⟩ := hrel
    by_cases hlt : k < gs.length
    · obtain ⟨x, hx⟩ : ∃ x, gs[k]? = some x := ⟨gs[k], List.getElem?_eq_getElem hlt⟩
      obtain ⟨b, off, ha, k0, k1, k2, k3, k4, k5, k6, k7, k8, k9⟩ := (HW.out.below hB.out).addr hx
      subst ha
      have hxs := HS.out x (List.mem_of_getElem? hx)
      have va : (val st).natAbs ≤ 12 * 30000000000000 := by rw [hst.out, val_canon]; exact HA1.out k
      have vx := real_abs hxs
      have lx := realT_len hxs
      have HP := Lib.hid (fun W => rrealized_any x W hxs)
      have HA := Lib.hid (fun W => RAdd_any st x.realT W (by omega) (by omega) (by omega) (by omega))
      have hl6 := add_len (l := st) (m := x.realT) (K := 2000 + 2 * k) (by omega) (by omega)
      have HS2 : Hid (canon (val st + val x.realT) = canon (sumOf GainP.realT (gs.take (k + 1)))) := by
        show _ = _
        rw [hst.out, val_canon, sumOf_take hx]
      clear hx hst hxs va vx lx
      generalize canon (val st + val x.realT) = na at *
      simp only [GainP.v, GainP.cs] at HP
      generalize (if x.err = 0 then (0 : Int) else 1) = z at *
      go_wp2_with fail
      refine (HP.out _).mono ?_
      rintro e w2 ⟨rfl, hb⟩
      have HB := Lib.hid (below_up hB.out hb)
      clear k0 k1 k2 k3 k4 k5 k6 k7 k8 k9 hb
      go_wp2_with fail
      refine (HA.out _).mono ?_
      rintro e w3 ⟨rfl, rfl⟩
      go_wp2
      go_round
      case rel => exact ⟨HB, k + 1, by omega, by go_num, _, rfl, HS2, by omega⟩
      case measure => simp [intOf]; omega
    · obtain rfl : k = gs.length := by omega
      have hst : Hid (st = canon (sumOf GainP.realT gs)) := by show _ = _; rw [hst.out, List.take_length]
      go_wp2
      go_ret
      exact ⟨ret_val (by rw [hst.out]; rfl), hB.out⟩
set_option maxHeartbeats 2000000 in
set_option maxRecDepth 100000 in
theorem rsums_any (gs : List GainP) (m : Int) (a : Option Addr) (c : Nat) (w : World) (hn : gs.length ≤ 12) (hw : Gains w a gs) (hs : ∀ x, x ∈ gs → x.small) :
    Calls Tryz.prog 24 #[.slice a gs.length c, .int .i64 m] w fun e w' => e = .returned (.tuple #[.string ⟨(sumsRes gs m).1.toArray⟩, .string ⟨(sumsRes gs m).2.toArray⟩, .int .i64 (splitErr gs m)]) ∧ Below w.heap.size w w' := by
  have H1 := Lib.hid (rsplit_any gs m a c w (by omega) hw hs)
  have hm := splitRes_mem gs m
  have HS : ∀ (l : List GainP), (∀ x, x ∈ l → x ∈ gs) → l.length ≤ gs.length → Hid (∀ (a : Option Addr) (c : Nat) W, Gains W a l → Calls Tryz.prog 63 #[.slice a l.length c] W fun e w' => e = .returned (.string ⟨(canon (sumOf GainP.realT l)).toArray⟩) ∧ Below W.heap.size W w') := fun l hl hle a c W hg =>
    r23realized_any l a c W (by omega) hg (fun x hx => hs x (hl x hx))
  have HS1 := HS _ hm.1 hm.2.2.1
  have HS2 := HS _ hm.2.1 hm.2.2.2
  have hq : Hid (sumsRes gs m = if splitErr gs m = 0 then (canon (sumOf GainP.realT (splitRes gs m).1), canon (sumOf GainP.realT (splitRes gs m).2)) else ([], [])) := rfl
  clear HS hm hw hs
  generalize sumsRes gs m = rr at *
  generalize splitRes gs m = sp at *
  generalize splitErr gs m = z at *
  obtain ⟨l1, l2⟩ := sp
  simp only at *
  generalize canon (sumOf GainP.realT l1) = s1 at *
  generalize canon (sumOf GainP.realT l2) = s2 at *
  go_enter Tryz.func24, Tryz.ntmps24
  go_wp2_with fail
  refine H1.out.mono ?_
  rintro e w1 ⟨⟨a1, c1, a2, c2, rfl, G1, G2⟩, hb⟩
  have G1 := Lib.hid G1
  have G2 := Lib.hid G2
  have HB := Lib.hid hb
  clear hb H1
  by_cases g : z = 0
  · subst g
    have hq : Hid (rr = (s1, s2)) := by show _ = _; rw [hq.out]; rfl
    go_wp2_with fail
    refine (HS1.out _ _ _ G1.out).mono ?_
    rintro e w2 ⟨rfl, hb⟩
    have G2 := Lib.hid (G2.out.below hb)
    have HB := Lib.hid (below_up HB.out hb)
    clear hb
    go_wp2_with fail
    refine (HS2.out _ _ _ G2.out).mono ?_
    rintro e w3 ⟨rfl, hb⟩
    have HB := Lib.hid (below_up HB.out hb)
    clear hb
    go_wp2
    go_ret3
    exact ⟨by rw [hq.out]; rfl, HB.out⟩
  · have g' : (z != 0) = true := by simpa using g
    have hq : Hid (rr = ([], [])) := by show _ = _; rw [hq.out, if_neg g]
    go_wp2
    go_ret3
    exact ⟨by rw [hq.out]; rfl, HB.out⟩
theorem splitRes_bad {gs : List GainP} {m : Int} (h : splitErr gs m = 0) : gs.any GainP.bad = false ∧ (splitRes gs m).1.any GainP.bad = false := by
  have h0 : gs.any GainP.bad = false := by
    cases hb : gs.any GainP.bad
    · rfl
    · unfold splitErr at h; rw [if_pos hb] at h; cases h
  refine ⟨h0, ?_⟩
  rw [List.any_eq_false] at h0 ⊢
  exact fun x hx => h0 x ((splitRes_mem gs m).1 x hx)
set_option maxHeartbeats 2000000 in
set_option maxRecDepth 100000 in
theorem rterms_any (gs : List GainP) (m : Int) (a : Option Addr) (c : Nat) (w : World) (hn : gs.length ≤ 12) (hw : Gains w a gs) (hs : ∀ x, x ∈ gs → x.small) :
    Calls Tryz.prog 26 #[.slice a gs.length c, .int .i64 m] w fun e w' => (∃ a1 c1, e = .returned (.tuple #[.slice a1 (termLen gs m) c1, .int .i64 (splitErr gs m)]) ∧ Row w' a1 (termCells gs m)) ∧ Below w.heap.size w w' := by
  have H1 := Lib.hid (rsplit_any gs m a c w (by omega) hw hs)
  have hm := splitRes_mem gs m
  have HA := Lib.hid (fun (hz : splitErr gs m = 0) (a : Option Addr) (c : Nat) W (hg : Gains W a gs) => rtotal_ok gs a c W hn hg hs (splitRes_bad hz).1)
  have HC := Lib.hid (fun (hz : splitErr gs m = 0) (a : Option Addr) (c : Nat) W (hg : Gains W a (splitRes gs m).1) => rtotal_ok (splitRes gs m).1 a c W (by have := hm.2.2.1; omega) hg (fun x hx => hs x (hm.1 x hx)) (splitRes_bad hz).2)
  have HW := Lib.hid hw
  have hq : Hid (termCells gs m = if splitErr gs m = 0 then [(.string ⟨#[112, 114, 111, 99, 101, 101, 100, 115]⟩), str (canon (sumOf GainP.p gs)), (.string ⟨#[99, 111, 115, 116]⟩), str (canon (sumOf GainP.c gs)), (.string ⟨#[108, 111, 110, 103, 112, 114, 111, 99, 101, 101, 100, 115]⟩), str (canon (sumOf GainP.p (splitRes gs m).1)), (.string ⟨#[108, 111, 110, 103, 99, 111, 115, 116]⟩), str (canon (sumOf GainP.c (splitRes gs m).1))] else []) := rfl
  have hq2 : Hid (termLen gs m = if splitErr gs m = 0 then 4 else 0) := rfl
  clear hm hw hs
  generalize termCells gs m = tc at *
  generalize termLen gs m = tl at *
  generalize splitRes gs m = sp at *
  generalize splitErr gs m = z at *
  obtain ⟨l1, l2⟩ := sp
  simp only at *
  generalize canon (sumOf GainP.p gs) = sa at *
  generalize canon (sumOf GainP.c gs) = sb at *
  generalize canon (sumOf GainP.df gs) = s3 at *
  generalize canon (sumOf GainP.p l1) = sc at *
  generalize canon (sumOf GainP.c l1) = sd at *
  generalize canon (sumOf GainP.df l1) = s4 at *
  go_enter Tryz.func26, Tryz.ntmps26
  go_wp2_with fail
  refine H1.out.mono ?_
  rintro e w1 ⟨⟨a1, c1, a2, c2, rfl, G1, G2⟩, hb⟩
  have G1 := Lib.hid G1
  have HB := Lib.hid hb
  clear hb H1 G2
  by_cases g : z = 0
  · subst g
    have hq : Hid (tc = [(.string ⟨#[112, 114, 111, 99, 101, 101, 100, 115]⟩), (.string ⟨sa.toArray⟩), (.string ⟨#[99, 111, 115, 116]⟩), (.string ⟨sb.toArray⟩), (.string ⟨#[108, 111, 110, 103, 112, 114, 111, 99, 101, 101, 100, 115]⟩), (.string ⟨sc.toArray⟩), (.string ⟨#[108, 111, 110, 103, 99, 111, 115, 116]⟩), (.string ⟨sd.toArray⟩)]) := by show _ = _; rw [hq.out]; rfl
    have hq2 : Hid (tl = 4) := by show _ = _; rw [hq2.out]; rfl
    go_wp2_with fail
    refine (HA.out trivial _ _ _ (HW.out.below HB.out)).mono ?_
    rintro e w2 ⟨rfl, hb⟩
    have G1 := Lib.hid (G1.out.below hb)
    have HB := Lib.hid (below_up HB.out hb)
    clear hb
    go_wp2_with fail
    refine (HC.out trivial _ _ _ G1.out).mono ?_
    rintro e w2 ⟨rfl, hb⟩
    have HB := Lib.hid (below_up HB.out hb)
    clear hb
    go_wp2
    go_ret2
    rw [hq.out, hq2.out]
    exact ⟨⟨_, _, rfl, row_of_heap (q := []) (by simpa using heap_alloc_new w2 _)⟩, below_up HB.out (below_alloc w2 _)⟩
  · have g' : (z != 0) = true := by simpa using g
    have hq : Hid (tc = []) := by show _ = _; rw [hq.out, if_neg g]
    have hq2 : Hid (tl = 0) := by show _ = _; rw [hq2.out, if_neg g]
    go_wp2
    go_ret2
    rw [hq.out, hq2.out]
    exact ⟨⟨_, _, rfl, .inl rfl⟩, below_up HB.out (below_alloc w1 _)⟩
set_option maxHeartbeats 2000000 in
set_option maxRecDepth 100000 in
theorem sameGains_eq (gs : List GainP) (a a2 : Option Addr) (c c2 : Nat) (w : World) (hn : gs.length ≤ 1000) (hw : Gains w a gs) (hw2 : Gains w a2 gs) :
    Calls Tryz.prog 27 #[.slice a gs.length c, .slice a2 gs.length c2] w fun e w' => e = .returned (.bool true) ∧ Below w.heap.size w w' := by
  have HW := Lib.hid hw
  have HW2 := Lib.hid hw2
  clear hw hw2
  go_enter Tryz.func27, Tryz.ntmps27
  go_wp2
  go_loopw [5] (fun i W => Hid (Below w.heap.size w W) ∧ ∃ k : Nat, k ≤ gs.length ∧ i = .int .i64 (k : Int)) (fun i _ => gs.length - (intOf i).toNat)
  case atStart => exact ⟨Below.refl _ _, 0, Nat.zero_le _, rfl⟩
  case round =>
    obtain ⟨hB, k, hk, rfl⟩ := hrel
    by_cases hlt : k < gs.length
    · obtain ⟨x, hx⟩ : ∃ x, gs[k]? = some x := ⟨gs[k], List.getElem?_eq_getElem hlt⟩
      obtain ⟨b, off, ha, k0, k1, k2, k3, k4, k5, k6, k7, k8, k9⟩ := (HW.out.below hB.out).addr hx
      obtain ⟨b2, off2, ha2, j0, j1, j2, j3, j4, j5, j6, j7, j8, j9⟩ := (HW2.out.below hB.out).addr hx
      subst ha ha2
      clear hx
      go_wp2_with fail
      go_quiet (fail)
      go_wp2
      go_round
      case rel => exact ⟨below_drewN hB.out _, k + 1, by omega, by go_num⟩
      case measure => simp [intOf]; omega
    · obtain rfl : k = gs.length := by omega
      go_wp2
      go_ret
      exact ⟨rfl, hB.out⟩
/-- terms (name and amount) lie from the address a on -/
def Terms (w : World) (a : Option Addr) (ts : List (List UInt8 × List UInt8)) : Prop :=
  ts = [] ∨ ∃ b off, a = some ⟨b, off, none⟩ ∧ b < w.heap.size ∧ ∀ k x, ts[k]? = some x → w.cell? ⟨b, off + k * 2, none⟩ = some (str x.1) ∧ w.cell? ⟨b, off + k * 2 + 1, none⟩ = some (str x.2)
theorem Terms.below {w w' : World} {a : Option Addr} {ts : List (List UInt8 × List UInt8)} (h : Terms w a ts) (hb : Below w.heap.size w w') : Terms w' a ts := by
  rcases h with h | ⟨b, off, ha, hlt, hc⟩
  · exact .inl h
  · have hcell : ∀ o, w'.cell? ⟨b, o, none⟩ = w.cell? ⟨b, o, none⟩ := fun o => hb.cell (p := ⟨b, o, none⟩) hlt
    refine .inr ⟨b, off, ha, Nat.lt_of_lt_of_le hlt hb.size, fun k x hx => ?_⟩
    simp only [hcell]
    exact hc k x hx
theorem Terms.addr {w : World} {a : Option Addr} {ts : List (List UInt8 × List UInt8)} (h : Terms w a ts) {k : Nat} {x : List UInt8 × List UInt8} (hx : ts[k]? = some x) :
    ∃ b off, a = some ⟨b, off, none⟩ ∧ w.cell? ⟨b, off + k * 2, none⟩ = some (.string ⟨x.1.toArray⟩) ∧ w.cell? ⟨b, off + k * 2 + 1, none⟩ = some (.string ⟨x.2.toArray⟩) := by
  rcases h with h | ⟨b, off, ha, _, hc⟩
  · rw [h] at hx; simp at hx
  · exact ⟨b, off, ha, hc k x hx⟩
noncomputable def termList (gs : List GainP) (m : Int) : List (List UInt8 × List UInt8) := if splitErr gs m = 0 then [([112, 114, 111, 99, 101, 101, 100, 115], canon (sumOf GainP.p gs)), ([99, 111, 115, 116], canon (sumOf GainP.c gs)), ([108, 111, 110, 103, 112, 114, 111, 99, 101, 101, 100, 115], canon (sumOf GainP.p (splitRes gs m).1)), ([108, 111, 110, 103, 99, 111, 115, 116], canon (sumOf GainP.c (splitRes gs m).1))] else []
theorem termList_length (gs : List GainP) (m : Int) : (termList gs m).length = termLen gs m := by
  unfold termList termLen; split <;> rfl
theorem terms_of_row {w : World} {a : Option Addr} {gs : List GainP} {m : Int} (h : Row w a (termCells gs m)) : Terms w a (termList gs m) := by
  by_cases g : splitErr gs m = 0
  · unfold termCells at h
    rw [if_pos g] at h
    obtain ⟨b, off, ha, hlt, hc⟩ := h.addr (by simp)
    unfold termList
    rw [if_pos g]
    refine .inr ⟨b, off, ha, hlt, fun k x hx => ?_⟩
    match k, hx with
    | 0, hx => simp at hx; subst hx; exact ⟨hc 0 _ rfl, hc 1 _ rfl⟩
    | 1, hx => simp at hx; subst hx; exact ⟨hc 2 _ rfl, hc 3 _ rfl⟩
    | 2, hx => simp at hx; subst hx; exact ⟨hc 4 _ rfl, hc 5 _ rfl⟩
    | 3, hx => simp at hx; subst hx; exact ⟨hc 6 _ rfl, hc 7 _ rfl⟩
    | k + 4, hx => simp at hx
  · exact .inl (by unfold termList; rw [if_neg g])
set_option maxHeartbeats 2000000 in
set_option maxRecDepth 100000 in
theorem sameTerms_eq (ts : List (List UInt8 × List UInt8)) (a a2 : Option Addr) (c c2 : Nat) (w : World) (hn : ts.length ≤ 1000) (hw : Terms w a ts) (hw2 : Terms w a2 ts) :
    Calls Tryz.prog 28 #[.slice a ts.length c, .slice a2 ts.length c2] w fun e w' => e = .returned (.bool true) ∧ Below w.heap.size w w' := by
  have HW := Lib.hid hw
  have HW2 := Lib.hid hw2
  clear hw hw2
  go_enter Tryz.func28, Tryz.ntmps28
  go_wp2
  go_loopw [5] (fun i W => Hid (Below w.heap.size w W) ∧ ∃ k : Nat, k ≤ ts.length ∧ i = .int .i64 (k : Int)) (fun i _ => ts.length - (intOf i).toNat)
  case atStart => exact ⟨Below.refl _ _, 0, Nat.zero_le _, rfl⟩
  case round =>
    obtain ⟨hB, k, hk, rfl⟩ := hrel
    by_cases hlt : k < ts.length
    · obtain ⟨x, hx⟩ : ∃ x, ts[k]? = some x := ⟨ts[k], List.getElem?_eq_getElem hlt⟩
      obtain ⟨b, off, ha, k0, k1⟩ := (HW.out.below hB.out).addr hx
      obtain ⟨b2, off2, ha2, j0, j1⟩ := (HW2.out.below hB.out).addr hx
      subst ha ha2
      clear hx
      obtain ⟨x1, x2⟩ := x
      simp only at k0 k1 j0 j1
      go_wp2_with fail
      go_quiet (fail)
      go_wp2
      go_round
      case rel => exact ⟨below_drewN hB.out _, k + 1, by omega, by go_num⟩
      case measure => simp [intOf]; omega
    · obtain rfl : k = ts.length := by omega
      go_wp2
      go_ret
      exact ⟨rfl, hB.out⟩
end Go.Proofs.YthlpfefckhdpiaaGreatDoor
