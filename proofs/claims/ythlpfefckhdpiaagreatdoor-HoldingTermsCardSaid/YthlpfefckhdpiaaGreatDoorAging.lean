/- holding.Aging: what it returns. -/
import Derived.Test.YthlpfefckhdpiaaGreatDoorAgingP
import Derived.Test.YthlpfefckhdpiaaGreatDoorLen
import Derived.Deep.QuietTactic
import Derived.BigQuiet
import Derived.Deep.RegionHeld3
import Derived.Deep.RegionWith
namespace Go.Proofs.YthlpfefckhdpiaaGreatDoor
open Go.RowKit Num Dt
attribute [local go_sem] str_append str_extract str_size setCell_drewN

theorem checkMonths_nil (a : Option Addr) (cap : Nat) (w : World) :
    Calls Tryz.prog 39 #[.slice a 0 cap] w fun e w' => e = .returned (.int .i64 0) ∧ w = w' := by
  have hi : Hid (∀ (f : Value) W, Calls Tryz.prog 118 #[.slice a 0 cap, f] W fun e w' => e = .returned (.int .i64 (-1)) ∧ W = w') := by
    intro f W
    go_enter Tryz.func118, Tryz.ntmps118
    go_wp2
    refine wp_loop_once ?_
    go_wp2
    go_ret
    exact ⟨rfl, rfl⟩
  have hc : Hid (∀ (f : Value) W, Calls Tryz.prog 77 #[.slice a 0 cap, f] W fun e w' => e = .returned (.bool false) ∧ W = w') := by
    intro f W
    go_enter Tryz.func77, Tryz.ntmps77
    go_wp2_with (go_at_call 118; refine (hi.out _ _).mono ?_; rintro e w' ⟨rfl, rfl⟩)
    go_ret
    exact ⟨rfl, rfl⟩
  clear hi
  go_enter Tryz.func39, Tryz.ntmps39
  go_wp2_with (go_at_call 77; refine (hc.out _ _).mono ?_; rintro e w' ⟨rfl, rfl⟩)
  go_ret
  exact ⟨rfl, rfl⟩
theorem checkMonths_any (zs : List Int) (a : Option Addr) (cap : Nat) (w : World) (hl : zs.length ≤ 9223372036854775807) (hw : Ints w a zs) :
    Calls Tryz.prog 39 #[.slice a zs.length cap] w fun e w' => e = .returned (.int .i64 (if zs.any bad = true then 2 else 0)) ∧ w = w' := by
  rcases hw with rfl | ⟨b, off, rfl, _, hc⟩
  · exact checkMonths_nil a cap w
  · exact checkMonths_ints zs b off cap w hl (fun k hk => hc k _ (by rw [List.getD_eq_getElem?_getD, List.getElem?_eq_getElem hk]; rfl))
theorem hvalid_any (d : Int) (w : World) :
    Calls Tryz.prog 40 #[.int .i64 d] w fun e w' => e = .returned (.bool (vday d)) ∧ w = w' := by
  by_cases h : -25567 ≤ d ∧ d ≤ 84005
  · rw [show vday d = true by unfold vday; simp [h]]
    exact hvalid_yes d w h.1 h.2
  · rw [show vday d = false by unfold vday; simp; omega]
    exact hvalid_no d w (by omega)

/-- a later number of months is not greater than the one before -/
def fallAt (zs : List Int) (i : Nat) : Bool := decide (0 < i) && decide (zs.getD i 0 ≤ zs.getD (i - 1) 0)
def falls (zs : List Int) : Bool := (List.range zs.length).any (fallAt zs)
theorem falls_hit {zs : List Int} {k : Nat} (hk : k < zs.length) (h : fallAt zs k = true) : falls zs = true := by
  unfold falls; rw [List.any_eq_true]; exact ⟨k, List.mem_range.2 hk, h⟩
theorem falls_step {zs : List Int} {k : Nat} (h : (List.range k).any (fallAt zs) = false) (h2 : fallAt zs k = false) : (List.range (k + 1)).any (fallAt zs) = false := by
  rw [List.range_succ, List.any_append, h]; simp [h2]
theorem fallAt_zero (zs : List Int) : fallAt zs 0 = false := rfl
theorem fallAt_succ {zs : List Int} {k : Nat} {y z : Int} (hy : zs[k]? = some y) (hz : zs[k + 1]? = some z) : fallAt zs (k + 1) = decide (z ≤ y) := by
  unfold fallAt; simp [List.getD_eq_getElem?_getD, hy, hz]
noncomputable def olds (d : Int) (zs : List Int) (x : LotP) : Nat := (zs.filter (fun z => isLong x.acq d z)).length
def addAt (out : List (List UInt8)) (n : Nat) (c : List UInt8) : List (List UInt8) := out.set n (canon (val (out.getD n []) + val c))
noncomputable def ageAll (d : Int) (zs : List Int) : List (List UInt8) → List LotP → Option (List (List UInt8))
  | out, [] => some out
  | out, x :: r => if d < x.acq then none else ageAll d zs (addAt out (olds d zs x) x.c) r
def agFin : Option (List (List UInt8)) → List (List UInt8) × Int
  | none => ([], 8)
  | some out => (out, 0)
noncomputable def aging (ls : List LotP) (d : Int) (zs : List Int) : List (List UInt8) × Int :=
  if scanErr [] ls ≠ 0 then ([], 1) else if zs.any bad = true then ([], 2) else if vday d = false then ([], 13) else if falls zs = true then ([], 8)
  else agFin (ageAll d zs (List.replicate (zs.length + 1) []) ls)
theorem olds_le (d : Int) (zs : List Int) (x : LotP) : olds d zs x ≤ zs.length := List.length_filter_le _ _

theorem infoIntT : (Tryz.prog.info? 33).map (fun i => (i.zero, i.size, i.bytes)) = some (some (.string ⟨#[]⟩), 1, 16) := by kernel_rfl
def strs (l : List (List UInt8)) : List Value := l.map (fun s => .string ⟨s.toArray⟩)
theorem make_strs (y : Nat) (hy : y ≤ 1000) (W : World) :
    (Instr.makeSlice 28 (.int .i64 (y : Int)) (.int .i64 (y : Int))).run Tryz.prog W = .ok (.slice (some ⟨W.heap.size, 0, none⟩) y y) (W.alloc (.cells (strs (List.replicate y [])).toArray 33)) := by
  obtain ⟨i0, hi, hz0, hz1, hz2⟩ := info_parts infoIntT
  have h := run_make (P := Tryz.prog) (w := W) 28 33 i0 (.string ⟨#[]⟩) Tryz.underlying28 hi hz0 .i64 .i64 y y (by omega) (by omega) (by rw [hz2]; omega) (by omega)
  simp only [Int.toNat_natCast, hz1, Nat.mul_one] at h
  rw [h]
  have e : madeCells (Value.string ⟨#[]⟩).cells y = (strs (List.replicate y [])).toArray := by
    rw [show (Value.string ⟨#[]⟩ : Value).cells = #[.string ⟨#[]⟩] from rfl, madeCells_one]
    unfold strs
    simp [List.map_replicate]
  rw [e]
theorem strs_set {w : World} {B n : Nat} {T : TypeId} {out : List (List UInt8)} (s : List UInt8) (h : w.heap[B]? = some (.cells (strs out).toArray T (0, 0))) :
    (w.setCell ⟨B, n, none⟩ (.string ⟨s.toArray⟩)).heap[B]? = some (.cells (strs (out.set n s)).toArray T (0, 0)) := by
  rw [heap_setCell_same w B n _ T _ h]
  congr 2
  simp [strs, List.map_set]
theorem strs_cell {w : World} {B n : Nat} {T : TypeId} {out : List (List UInt8)} (h : w.heap[B]? = some (.cells (strs out).toArray T (0, 0))) (hn : n < out.length) :
    w.cell? ⟨B, n, none⟩ = some (.string ⟨(out.getD n []).toArray⟩) := by
  rw [Lib.cell_of_heap h]
  simp [strs, List.getD_eq_getElem?_getD, List.getElem?_eq_getElem hn]
theorem age_none {d : Int} {zs : List Int} {out : List (List UInt8)} {ls : List LotP} {k : Nat} {x : LotP} (hx : ls[k]? = some x) (h : d < x.acq) : ageAll d zs out (ls.drop k) = none := by
  rw [drop_at hx, ageAll, if_pos h]
theorem age_some {d : Int} {zs : List Int} {out : List (List UInt8)} {ls : List LotP} {k : Nat} {x : LotP} (hx : ls[k]? = some x) (h : ¬ d < x.acq) : ageAll d zs out (ls.drop k) = ageAll d zs (addAt out (olds d zs x) x.c) (ls.drop (k + 1)) := by
  rw [drop_at hx, ageAll, if_neg h]
theorem Box.set {w : World} {b : Nat} {cs : Array Value} {T : TypeId} {p : Addr} (h : Box w b cs T) (hne : b ≠ p.block) (v : Value) : Box (w.setCell p v) b cs T :=
  ⟨by simpa [World.setCell] using h.1, (Below.heap_setCell w p v b hne).trans h.2⟩
/-- what the rounds of the lots keep -/
def Ages (W : World) (bo : Nat) (d : Int) (zs : List Int) (ls : List LotP) (r : List (List UInt8) × Int) (k : Nat) : Prop :=
  ∃ out, out.length = zs.length + 1 ∧ W.heap[bo]? = some (.cells (strs out).toArray 33 (0, 0)) ∧ (∀ s, s ∈ out → s.length ≤ 1000 + 2 * k) ∧ r = agFin (ageAll d zs out (ls.drop k))
set_option maxHeartbeats 4000000 in
set_option maxRecDepth 100000 in
theorem aging_any (ls : List LotP) (d : Int) (zs : List Int) (a a2 : Option Addr) (c c2 : Nat) (w : World) (hE : Env w) (hn : ls.length ≤ 12) (hn2 : zs.length ≤ 100) (hw : Lots w a ls) (hw2 : Ints w a2 zs) (hs : ∀ x, x ∈ ls → x.small) :
    Calls Tryz.prog 11 #[.slice a ls.length c, .int .i64 d, .slice a2 zs.length c2] w fun e w' => (∃ a3 c3, e = .returned (.tuple #[.slice a3 (aging ls d zs).1.length c3, .int .i64 (aging ls d zs).2]) ∧ Row w' a3 (strs (aging ls d zs).1)) ∧ Below w.heap.size w w' := by
  have HS := Lib.hid hs
  have HW := Lib.hid hw
  have HW2 := Lib.hid hw2
  have HE := Lib.hid hE
  clear hs hw hw2 hE
  have hr : Hid (aging ls d zs = if scanErr [] ls ≠ 0 then ([], 1) else if zs.any bad = true then ([], 2) else if vday d = false then ([], 13) else if falls zs = true then ([], 8)
  else agFin (ageAll d zs (List.replicate (zs.length + 1) []) ls)) := rfl
  generalize aging ls d zs = r at *
  have KB := Lib.hid (Box.new0 w #[.int .i64 d] 23)
  have HB := Lib.hid (below_alloc w (.cells #[.int .i64 d] 23))
  have H1 := Lib.hid (fun W (hb : Below w.heap.size w W) => checkAll_any ls a c W (HE.out.below hb) hn (HW.out.below hb) HS.out)
  have H2 := Lib.hid (fun W (hb : Below w.heap.size w W) => checkMonths_any zs a2 c2 W (by omega) (HW2.out.below hb))
  have H3 := Lib.hid (fun W => hvalid_any d W)
  go_enter Tryz.func11, Tryz.ntmps11
  go_wp2_with fail
  refine (H1.out _ HB.out).mono ?_
  rintro e w1 ⟨rfl, hb⟩
  have KB := Lib.hid (KB.out.below hb)
  have HB := Lib.hid (below_up HB.out hb)
  clear hb H1
  by_cases g1 : scanErr [] ls = 0
  case neg =>
    have g1' : (scanErr [] ls != 0) = true := by simpa using g1
    have hq : Hid (r = ([], 1)) := by show _ = _; rw [hr.out, if_pos g1]
    clear hr
    generalize scanErr [] ls = q at *
    go_wp2
    go_ret2
    rw [hq.out]
    exact ⟨⟨none, 0, rfl, .inl rfl⟩, HB.out⟩
  have hr : Hid (r = if zs.any bad = true then ([], 2) else if vday d = false then ([], 13) else if falls zs = true then ([], 8)
  else agFin (ageAll d zs (List.replicate (zs.length + 1) []) ls)) := by show _ = _; rw [hr.out, if_neg (by simp [g1])]
  rw [g1]
  clear g1
  go_wp2_with fail
  refine (H2.out _ HB.out).mono ?_
  rintro e w1 ⟨rfl, rfl⟩
  cases g1 : zs.any bad
  case true =>
    have hr : Hid (r = ([], 2)) := by show _ = _; rw [hr.out, if_pos g1]
    simp only [if_true]
    go_wp2
    go_ret2
    rw [hr.out]
    exact ⟨⟨none, 0, rfl, .inl rfl⟩, HB.out⟩
  have hr : Hid (r = if vday d = false then ([], 13) else if falls zs = true then ([], 8)
  else agFin (ageAll d zs (List.replicate (zs.length + 1) []) ls)) := by show _ = _; rw [hr.out, if_neg (by simp [g1])]
  simp only [Bool.false_eq_true, if_false]
  clear g1 H2
  have k0 := KB.out.cell 0
  go_wp2_with fail
  refine (H3.out _).mono ?_
  rintro e w2 ⟨rfl, rfl⟩
  cases g1 : vday d
  case false =>
    have hr : Hid (r = ([], 13)) := by show _ = _; rw [hr.out, if_pos g1]
    go_wp2
    go_ret2
    rw [hr.out]
    exact ⟨⟨none, 0, rfl, .inl rfl⟩, HB.out⟩
  have hr : Hid (r = if falls zs = true then ([], 8) else agFin (ageAll d zs (List.replicate (zs.length + 1) []) ls)) := by show _ = _; rw [hr.out, if_neg (by simp [g1])]
  clear g1 H3 k0
  go_wp2_with fail
  go_loopw [28] (fun i W => Hid (Below w.heap.size w W) ∧ Hid (Box W w.heap.size #[.int .i64 d] 23) ∧ ∃ k : Nat, k ≤ zs.length ∧ i = .int .i64 (k : Int) ∧ Hid ((List.range k).any (fallAt zs) = false)) (fun i _ => zs.length - (intOf i).toNat)
  case atStart => exact ⟨HB, KB, 0, Nat.zero_le _, rfl, rfl⟩
  case round =>
    clear HB KB
    obtain ⟨HB, KB, k, hk, rfl, hp⟩ := hrel
    by_cases hlt : k < zs.length
    · obtain ⟨z, hz⟩ : ∃ z, zs[k]? = some z := ⟨zs[k], List.getElem?_eq_getElem hlt⟩
      obtain ⟨b, off, ha, k0⟩ := (HW2.out.below HB.out).addr hz
      subst ha
      cases k with
      | zero =>
        have HP := Lib.hid (falls_step hp.out (fallAt_zero zs))
        go_wp2_with fail
        go_quiet (fail)
        go_wp2
        go_round
        case rel => exact ⟨below_drewN HB.out _, KB.out.below (below_drewN (Below.refl _ _) _), 1, by omega, by go_num, HP⟩
        case measure => simp [intOf]; omega
      | succ j =>
        obtain ⟨y, hy⟩ : ∃ y, zs[j]? = some y := ⟨zs[j], List.getElem?_eq_getElem (by omega)⟩
        obtain ⟨b', off', ha', k1⟩ := (HW2.out.below HB.out).addr hy
        injection ha' with ha'
        injection ha' with e1 e2
        subst e1 e2
        have HF := Lib.hid (fallAt_succ hy hz)
        have HX := Lib.hid (fun h => falls_hit hlt h)
        have HY := Lib.hid (fun h => falls_step hp.out h)
        clear hy hz
        by_cases g : z ≤ y
        · have hr : Hid (r = ([], 8)) := by show _ = _; rw [hr.out, if_pos (HX.out (by rw [HF.out]; simp [g]))]
          go_wp2_with fail
          go_quiet (fail)
          go_wp2
          go_ret2
          rw [hr.out]
          exact ⟨⟨none, 0, rfl, .inl rfl⟩, below_drewN HB.out _⟩
        · have HP := Lib.hid (HY.out (by rw [HF.out]; simp [g]))
          go_wp2_with fail
          go_quiet (fail)
          go_wp2
          go_round
          case rel => exact ⟨below_drewN HB.out _, KB.out.below (below_drewN (Below.refl _ _) _), j + 2, by omega, by go_num, HP⟩
          case measure => simp [intOf]; omega
    · obtain rfl : k = zs.length := by omega
      have hr : Hid (r = agFin (ageAll d zs (List.replicate (zs.length + 1) []) ls)) := by show _ = _; rw [hr.out, if_neg (by unfold falls; simp [hp.out])]
      obtain ⟨bo, hbo'⟩ : ∃ bo, bo = wr.heap.size := ⟨_, rfl⟩
      have hmk : (Instr.makeSlice 28 (.int .i64 ((zs.length : Int) + 1)) (.int .i64 ((zs.length : Int) + 1))).run Tryz.prog wr = .ok (.slice (some ⟨bo, 0, none⟩) (zs.length + 1) (zs.length + 1)) (wr.alloc (.cells (strs (List.replicate (zs.length + 1) [])).toArray 33)) := by rw [hbo']; simpa using make_strs (zs.length + 1) (by omega) wr
      have hA : Hid (Ages (wr.alloc (.cells (strs (List.replicate (zs.length + 1) [])).toArray 33)) bo d zs ls r 0) := ⟨List.replicate (zs.length + 1) [], by simp, by rw [hbo']; exact heap_alloc_new wr _, fun s hs => by rw [List.eq_of_mem_replicate hs]; simp, by rw [hr.out]; rfl⟩
      have hbo : w.heap.size < bo := by have := KB.out.1; omega
      have KB2 := Lib.hid (KB.out.below (below_alloc wr (.cells (strs (List.replicate (zs.length + 1) [])).toArray 33)))
      have HB2 := Lib.hid (below_up HB.out (below_alloc wr (.cells (strs (List.replicate (zs.length + 1) [])).toArray 33)))
      clear hr hp HB KB hbo'
      go_wp2_with fail
      clear hmk
      go_loopw [52] (fun i W => Hid (Below w.heap.size w W) ∧ Hid (Box W w.heap.size #[.int .i64 d] 23) ∧ ∃ k : Nat, k ≤ ls.length ∧ i = .int .i64 (k : Int) ∧ Hid (Ages W bo d zs ls r k)) (fun i _ => ls.length - (intOf i).toNat)
      case atStart => exact ⟨HB2, KB2, 0, Nat.zero_le _, rfl, hA⟩
      case round =>
        clear HB2 KB2 hA
        obtain ⟨HB, KB, k, hk, rfl, hA⟩ := hrel
        by_cases hlt : k < ls.length
        · obtain ⟨x, hx⟩ : ∃ x, ls[k]? = some x := ⟨ls[k], List.getElem?_eq_getElem hlt⟩
          obtain ⟨b, off, ha, k0, k1, k2, k3, k4, k5, k6⟩ := (HW.out.below HB.out).addr hx
          subst ha
          have q0 := KB.out.cell 0
          have q1 := KB.out.1
          have hne : w.heap.size ≠ wr.heap.size := by omega
          by_cases g : d < x.acq
          · obtain ⟨out, ho1, ho2, ho3, ho4⟩ := hA.out
            have hr : Hid (r = ([], 8)) := by show _ = _; rw [ho4, age_none hx g]; rfl
            clear ho1 ho2 ho3 ho4 hx
            have HB2 := Lib.hid (below_up HB.out (below_alloc wr (.cells #[.string ⟨x.id.toArray⟩, .string ⟨x.ins.toArray⟩, .int .i64 x.acq, .int .i64 x.opn, .string ⟨x.q.toArray⟩, .string ⟨x.c.toArray⟩, .string ⟨x.u.toArray⟩] 35)))
            go_wp2_with fail
            go_ret2
            rw [hr.out]
            exact ⟨⟨none, 0, rfl, .inl rfl⟩, HB2.out⟩
          have hm := HS.out x (List.mem_of_getElem? hx)
          have KX := Lib.hid (Box.new0 wr #[.string ⟨x.id.toArray⟩, .string ⟨x.ins.toArray⟩, .int .i64 x.acq, .int .i64 x.opn, .string ⟨x.q.toArray⟩, .string ⟨x.c.toArray⟩, .string ⟨x.u.toArray⟩] 35)
          have HX := Lib.hid (below_alloc wr (.cells #[.string ⟨x.id.toArray⟩, .string ⟨x.ins.toArray⟩, .int .i64 x.acq, .int .i64 x.opn, .string ⟨x.q.toArray⟩, .string ⟨x.c.toArray⟩, .string ⟨x.u.toArray⟩] 35))
          have HN : Hid (∃ out, out.length = zs.length + 1 ∧ wr.heap[bo]? = some (.cells (strs out).toArray 33 (0, 0)) ∧ (∀ s, s ∈ out → s.length ≤ 1000 + 2 * k) ∧ r = agFin (ageAll d zs (addAt out (olds d zs x) x.c) (ls.drop (k + 1)))) := by
            obtain ⟨out, ho1, ho2, ho3, ho4⟩ := hA.out
            exact ⟨out, ho1, ho2, ho3, by rw [ho4, age_some hx g]⟩
          have HXC : Hid (x.c.length ≤ 1000) := hm.2.2.2.1
          clear hA hx hm
          go_wp2_with fail
          clear q0 q1 hne k0 k1 k2 k3 k4 k5 k6 g
          generalize wr.alloc _ = w3 at *
          obtain ⟨out, ho1, ho2, ho3, ho4⟩ := HN.out
          have KB := Lib.hid (KB.out.below HX.out)
          have HB := Lib.hid (below_up HB.out HX.out)
          have KO : Hid (Box w3 bo (strs out).toArray 33) := Box.below ⟨(Array.getElem?_eq_some_iff.1 ho2).1, ho2⟩ HX.out
          have HO := Lib.hid (And.intro ho3 ho4)
          have HD := Lib.hid (divide_int w3.heap.size (fun z => isLong x.acq d z) (fun W => W.heap[wr.heap.size]? = some (.cells #[.string ⟨x.id.toArray⟩, .string ⟨x.ins.toArray⟩, .int .i64 x.acq, .int .i64 x.opn, .string ⟨x.q.toArray⟩, .string ⟨x.c.toArray⟩, .string ⟨x.u.toArray⟩] 35 (0, 0)) ∧ W.heap[w.heap.size]? = some (.cells #[.int .i64 d] 23 (0, 0)))
            (fun W W' h hb => ⟨(hb.block _ KX.out.1).trans h.1, (hb.block _ KB.out.1).trans h.2⟩) _ _
            (fun z W h => aging1_any z x.acq d wr.heap.size #[.string ⟨x.id.toArray⟩, .string ⟨x.ins.toArray⟩, .int .i64 x.acq, .int .i64 x.opn, .string ⟨x.q.toArray⟩, .string ⟨x.c.toArray⟩, .string ⟨x.u.toArray⟩] 35 23 W w.heap.size ⟨(Array.getElem?_eq_some_iff.1 h.1).1, h.1⟩ rfl ⟨(Array.getElem?_eq_some_iff.1 h.2).1, h.2⟩)
            zs a2 c2 w3 (HW2.out.below HB.out) ⟨KX.out.2, KB.out.2⟩ (Nat.le_refl _) (by omega))
          clear HN HX ho2 ho3 ho4
          refine HD.out.mono ?_
          rintro e w4 ⟨⟨a1, c1, y, rfl⟩, hb⟩
          have HL := Lib.hid (olds_le d zs x)
          have HQ : Hid (olds d zs x = (zs.filter (fun z => isLong x.acq d z)).length) := rfl
          generalize (zs.filter (fun z => isLong x.acq d z)).length = n at *
          have hn3 : n ≤ zs.length := by rw [← HQ.out]; exact HL.out
          have KX := Lib.hid (KX.out.below hb)
          have KO := Lib.hid (KO.out.below hb)
          have KB := Lib.hid (KB.out.below hb)
          have HB := Lib.hid (below_up HB.out hb)
          have q1 := strs_cell (n := n) KO.out.2 (by omega)
          have q2 := KX.out.cell 5
          have HA := Lib.hid (fun W hE => Add_any (out.getD n []) x.c W hE (by have := HO.out.1 (out.getD n []) (by rw [List.getD_eq_getElem?_getD, List.getElem?_eq_getElem (show n < out.length by omega)]; simp); omega) (by have := HXC.out; omega))
          clear HD hb HL
          have hne : bo ≠ wr.heap.size := by
            intro e
            have h1 := KO.out.2
            have h2 := KX.out.2
            rw [e, h2] at h1
            injection h1 with h1
            injection h1 with h1 h3
            exact absurd h3 (by decide)
          have hi1 : n < zs.length + 1 := by omega
          have hi2 : (n : Int) < (zs.length : Int) + 1 := by omega
          generalize hs : out.getD n [] = s at *
          have q2 : w4.cell? ⟨wr.heap.size, 5, none⟩ = some (.string ⟨x.c.toArray⟩) := q2
          go_wp2_with fail
          go_region_with (go_at_call 15; refine (HA.out _ (HE.out.below (below_drewN HB.out _))).mono ?_; rintro e w5 ⟨rfl, hb5⟩; have KO5 := KO.out.below (below_up (below_drewN (Below.refl _ _) 1) hb5); have q1 : w5.cell? ⟨bo, n, none⟩ = some (.string ⟨s.toArray⟩) := (hb5.cell (p := ⟨bo, n, none⟩) KO.out.1).trans q1; have q2 : w5.cell? ⟨wr.heap.size, 5, none⟩ = some (.string ⟨x.c.toArray⟩) := (hb5.cell (p := ⟨wr.heap.size, 5, none⟩) KX.out.1).trans q2; have f5 := frozen_at KO5.2 n)
          all_goals
            have hb6 := below_up HB.out (below_up (below_drewN (Below.refl _ _) 1) hb5)
            have HB6 := Lib.hid (hb6.setCell (p := ⟨bo, n, none⟩) (Nat.le_of_lt hbo) (.string ⟨(canon (val s + val x.c)).toArray⟩))
            have KB6 : Hid (Box (w5.setCell ⟨bo, n, none⟩ (.string ⟨(canon (val s + val x.c)).toArray⟩)) w.heap.size #[.int .i64 d] 23) := Box.set (KB.out.below (below_up (below_drewN (Below.refl _ _) 1) hb5)) (by show w.heap.size ≠ bo; omega) _
            have HA6 : Hid (Ages (w5.setCell ⟨bo, n, none⟩ (.string ⟨(canon (val s + val x.c)).toArray⟩)) bo d zs ls r (k + 1)) := by
              refine ⟨addAt out n x.c, ?_, ?_, ?_, ?_⟩
              · unfold addAt; simp [ho1]
              · unfold addAt; rw [hs]; exact strs_set _ KO5.2
              · intro u hu
                unfold addAt at hu
                rw [hs] at hu
                rcases List.mem_or_eq_of_mem_set hu with h | h
                · have := HO.out.1 u h; omega
                · rw [h]
                  have hs2 : s ∈ out := by rw [← hs, List.getD_eq_getElem?_getD, List.getElem?_eq_getElem (show n < out.length by omega)]; simp
                  have h1 := HO.out.1 s hs2
                  have h2 := HXC.out
                  have := add_len (l := s) (m := x.c) (K := 1000 + 2 * k) h1 (by omega)
                  omega
              · rw [← HQ.out]; exact HO.out.2
            clear hb5 KO5 q1 q2 f5 HO HA hs hb6
            generalize w5.setCell _ _ = w6 at *
            go_wp2
            go_round
            case rel => exact ⟨HB6, KB6, k + 1, by omega, by go_num, HA6⟩
            case measure => simp [intOf]; omega
        · obtain rfl : k = ls.length := by omega
          obtain ⟨out, ho1, ho2, ho3, ho4⟩ := hA.out
          have hr : Hid (r = (out, 0)) := by show _ = _; rw [ho4]; simp [ageAll, agFin]
          have hR : Hid (Row wr (some ⟨bo, 0, none⟩) (strs out)) := row_of_heap (q := []) (by simpa using ho2)
          clear ho2 ho3 ho4
          go_wp2_with fail
          go_ret2
          rw [hr.out]
          exact ⟨⟨_, _, by rw [← ho1]; rfl, hR.out⟩, HB.out⟩
end Go.Proofs.YthlpfefckhdpiaaGreatDoor
