/- The walk of (magnitude).plus. -/
import Derived.Test.YthlpfefckhdpiaaGreatDoorMagWalk
import Derived.Laws.CopyOwn
import Derived.Laws.MakeOwn
import Derived.OwnWalk
namespace Go.Proofs.YthlpfefckhdpiaaGreatDoor
open Go.RowKit Num

theorem infoU64 : (Tryz.prog.info? 111).map (fun i => (i.zero, i.size, i.bytes)) = some (some (.int .u64 0), 1, 8) := by kernel_rfl
theorem sizeU64 : (Tryz.prog.info? 111).map (·.size) = some 1 := by kernel_rfl
theorem addr_add (b off k : Nat) : (⟨b, off, none⟩ : Addr).add k = ⟨b, off + k, none⟩ := by by_cases hk : k = 0 <;> simp [Addr.add, hk]
theorem gs_one (m : List Nat) : ∀ v ∈ gs m, v.oneCell' = true := by
  intro v hv
  obtain ⟨g, _, rfl⟩ := List.mem_map.1 hv
  rfl
def zeros (n : Nat) : List Value := List.replicate n (.int .u64 0)
theorem madeCells_one (z : Value) (n : Nat) : madeCells #[z] n = (List.replicate n z).toArray := by
  unfold madeCells
  apply Array.ext
  · simp
  · intro i h1 h2; simp [Nat.mod_one]
theorem make_mag (x y : Nat) (hxy : x ≤ y) (hy : y ≤ 1099511627776) (W : World) :
    (Instr.makeSlice 83 (.int .i64 (x : Int)) (.int .i64 (y : Int))).run Tryz.prog W = .ok (.slice (some ⟨W.heap.size, 0, none⟩) x y) (W.alloc (.cells (zeros y).toArray 111)) := by
  obtain ⟨i0, hi, hz0, hz1, hz2⟩ := info_parts infoU64
  have h := run_make (P := Tryz.prog) (w := W) 83 111 i0 (.int .u64 0) Tryz.underlying83 hi hz0 .i64 .i64 x y (by omega) (by omega) (by rw [hz2]; omega) (by omega)
  simp only [Int.toNat_natCast, hz1, Nat.mul_one] at h
  rw [h]
  have e : madeCells (Value.int .u64 0).cells y = (zeros y).toArray := madeCells_one _ _
  rw [e]
theorem gs_append (a b : List Nat) : gs (a ++ b) = gs a ++ gs b := by simp [gs]

/-- a store into a row -/
theorem row_set {w : World} {B k : Nat} {T : TypeId} {p q : List Value} {u : Value} (v : Value) (h : w.heap[B]? = some (.cells (p ++ (u :: q)).toArray T (0, 0))) (hk : p.length = k) :
    (w.setCell ⟨B, k, none⟩ v).heap[B]? = some (.cells (p ++ (v :: q)).toArray T (0, 0)) := by
  rw [heap_setCell_same w B k _ T v h]
  congr 2
  subst hk
  simp

theorem row_of_heap {w : World} {B : Nat} {T : TypeId} {p q : List Value} (h : w.heap[B]? = some (.cells (p ++ q).toArray T (0, 0))) : Row w (some ⟨B, 0, none⟩) p := by
  refine .inr ⟨B, 0, rfl, (Array.getElem?_eq_some_iff.1 h).1, fun k u hu => ?_⟩
  rw [Nat.zero_add, Lib.cell_of_heap h]
  have hk : k < p.length := by
    rcases Nat.lt_or_ge k p.length with h | h
    · exact h
    · rw [List.getElem?_eq_none h] at hu; cases hu
  simp only [List.getElem?_toArray]
  rw [List.getElem?_append_left hk]; exact hu
theorem row_setg {w : World} {B k : Nat} {T : TypeId} {o rest : List Nat} {g : Nat} {z : List Value} (h : w.heap[B]? = some (.cells (gs o ++ (gs (g :: rest) ++ z)).toArray T (0, 0))) (hk : o.length = k) (r : Nat) {v : Int} (hv : v = r) :
    (w.setCell ⟨B, k, none⟩ (.int .u64 v)).heap[B]? = some (.cells (gs o ++ (gs (r :: rest) ++ z)).toArray T (0, 0)) := by
  subst hv
  exact row_set (p := gs o) (q := gs rest ++ z) (u := .int .u64 (g : Int)) (.int .u64 (r : Int)) h (by rw [gs_length]; exact hk)
theorem gs_shift (o rest : List Nat) (r : Nat) (z : List Value) : gs o ++ (gs (r :: rest) ++ z) = gs (o ++ [r]) ++ (gs rest ++ z) := by simp [gs]

set_option maxHeartbeats 2000000 in
set_option maxRecDepth 100000 in
theorem plus_long (m n : List Nat) (a a' : Option Addr) (cap cap' : Nat) (w : World) (hle : n.length ≤ m.length) (hlen : m.length ≤ 1000000000000) (hm : ∀ g ∈ m, g < 1000000000) (hn : ∀ g ∈ n, g < 1000000000)
    (hr : Row w a (gs m)) (hr' : Row w a' (gs n)) :
    Calls Tryz.prog 79 #[.slice a m.length cap, .slice a' n.length cap'] w fun e w' => ∃ b c, e = .returned (.slice (some ⟨b, 0, none⟩) (plusG m n).length c) ∧ (plusG m n).length ≤ c ∧ w.heap.size ≤ b ∧ Row w' (some ⟨b, 0, none⟩) (gs (plusG m n)) ∧ Below w.heap.size w w' := by
  have HM := Lib.hid (And.intro hm hn)
  have HR := Lib.hid (And.intro hr hr')
  obtain ⟨x, hx⟩ : ∃ x, x = m.length := ⟨_, rfl⟩
  obtain ⟨y, hy⟩ : ∃ y, y = n.length := ⟨_, rfl⟩
  have HX := Lib.hid hx
  have HY := Lib.hid hy
  rw [← hx] at hle hlen ⊢
  rw [← hy] at hle ⊢
  clear hm hn hr hr' hx hy
  have hlt : ¬ x < y := by omega
  have hmk := fun W => make_mag x (x + 1) (by omega) (by omega) W
  rw [show ((x + 1 : Nat) : Int) = (x : Int) + 1 by omega] at hmk
  go_enter Tryz.func79, Tryz.ntmps79
  go_wp2_with (with_reducible refine wpList_copy_splice rfl (.tmp 21) (.tmp 22) 83 83 rfl 111 Tryz.underlying83 sizeU64 _ _ _ _ _ _ rfl rfl w.heap.size 0 (zeros (x + 1)) 111 ?h1 (gs m) ?h2 ?h3 ?h4 ?h5 w.heap.size w ?h6 ?h7 ?_)
  case h1 => exact heap_alloc_new w _
  case h2 => rw [gs_length, ← HX.out]; simp
  case h3 =>
    intro hp
    obtain ⟨b, off, ha, hlt, hc⟩ := HR.out.1.addr (by intro e; rw [e] at hp; simp at hp)
    have hq : ∃ ad, a = some ad ∧ ∀ j v, (gs m)[j]? = some v → (w.alloc (.cells (zeros (x + 1)).toArray 111)).cell? (ad.add j) = some v := by
      refine ⟨⟨b, off, none⟩, ha, fun j v hj => ?_⟩
      rw [addr_add]
      exact Lib.cell?_alloc_some _ (hc j v hj)
    first | exact ⟨rfl, hq⟩ | exact hq
  case h4 => rw [gs_length, ← HX.out]; simp [zeros]
  case h5 => exact gs_one m
  case h6 => exact (Below.refl _ _).alloc (Nat.le_refl _) _
  case h7 => exact Nat.le_refl _
  intro w1 hrow hb1
  have hrow : Hid (w1.heap[w.heap.size]? = some (.cells (gs m ++ [Value.int .u64 0]).toArray 111 (0, 0))) := by
    have := hrow.out
    rw [show splice (zeros (x + 1)) 0 (gs m) = gs m ++ [Value.int .u64 0] by
      unfold splice zeros
      rw [gs_length, ← HX.out, List.take_zero, List.nil_append, Nat.zero_add, List.drop_replicate, show x + 1 - x = 1 by omega]; rfl] at this
    exact this
  go_wp2
  go_loopw [6, 7, 26] (fun cy _ i wr => ∃ (k : Nat) (o : List Nat) (c : Nat), k ≤ x ∧ i = .int .i64 (k : Int) ∧ cy = .int .u64 (c : Int) ∧ c ≤ 1 ∧ Hid (PlusAt m n k o c) ∧ Hid (wr.heap[w.heap.size]? = some (.cells (gs o ++ (gs (m.drop k) ++ [Value.int .u64 0])).toArray 111 (0, 0))) ∧ Below w.heap.size w wr) (fun _ _ i _ => x - (intOf i).toNat)
  case atStart => exact ⟨0, [], 0, Nat.zero_le _, rfl, rfl, by decide, plusAt_zero m n, hrow, hb1⟩
  case round =>
    obtain ⟨k, o, c, hk, rfl, rfl, hc1, hp, hcell0, hbr⟩ := hrel
    by_cases hkx : k < x
    · have hkm : k < m.length := by have := HX.out; omega
      have hp' := Lib.hid (plusAt_succ hp.out hkm HM.out.1 HM.out.2)
      have hol : o.length = k := hp.out.1
      have hgm := HM.out.1 _ (mem_getD hkm)
      have hdr := drop_cons_getD m k hkm
      have hcur := hcell0.out
      rw [hdr] at hcur
      generalize m.getD k 0 = g at *
      have HOL := Lib.hid hol
      have hz := hbr.size
      have hpos : w.heap.size < wr.heap.size := (Array.getElem?_eq_some_iff.1 hcur).1
      have hck : wr.cell? ⟨w.heap.size, k, none⟩ = some (.int .u64 (g : Int)) := by
        rw [Lib.cell_of_heap hcur, ← HOL.out]
        simp [gs]
      have hfk : wr.frozen? ⟨w.heap.size, k, none⟩ = false := Lib.frozen_of_heap hcur k
      have HCUR := Lib.hid hcur
      clear hcur hdr hol hcell0
      by_cases hky : k < y
      · have hkn : k < n.length := by have := HY.out; omega
        have hgn := HM.out.2 _ (mem_getD hkn)
        obtain ⟨b', off', ha', hlt', hc'⟩ := HR.out.2.addr (by intro e; have := congrArg List.length e; rw [gs_length] at this; simp at this; rw [this] at hkn; simp at hkn)
        have hcn := hc' k _ (gs_get n k hkn)
        have hcn2 : wr.cell? ⟨b', off' + k, none⟩ = some (.int .u64 ((n.getD k 0 : Nat) : Int)) := (hbr.cell (p := ⟨b', off' + k, none⟩) hlt').trans hcn
        have hne : b' ≠ w.heap.size := by omega
        generalize n.getD k 0 = g' at *
        subst ha'
        clear hc' hcn
        go_wp2
        go_region
        go_wp2
        refine ⟨⟨k + 1, o ++ [(g + g' + c) % 1000000000], (g + g' + c) / 1000000000, by omega, by go_num, by go_num, by omega, hp', ?_, ?_⟩, by simp [intOf]; omega⟩
        · have h1 := row_setg HCUR.out HOL.out (g + c) (v := (g : Int) + c) (by omega)
          have h2 := row_setg h1 HOL.out (g + g' + c) (v := (g : Int) + c + g') (by omega)
          have h3 := row_setg h2 HOL.out ((g + g' + c) % 1000000000) (v := ((g : Int) + c + g') % 1000000000) (by omega)
          rw [gs_shift] at h3
          exact h3
        · exact (((hbr.setCell (p := ⟨w.heap.size, k, none⟩) (Nat.le_refl _) _).setCell (p := ⟨w.heap.size, k, none⟩) (Nat.le_refl _) _).setCell (p := ⟨w.heap.size, k, none⟩) (Nat.le_refl _) _).drew
      · have e0 : n.getD k 0 = 0 := by rw [List.getD_eq_getElem?_getD, List.getElem?_eq_none (by have := HY.out; omega)]; rfl
        rw [e0] at hp'
        clear e0
        go_wp2
        refine ⟨⟨k + 1, o ++ [(g + 0 + c) % 1000000000], (g + 0 + c) / 1000000000, by omega, by go_num, by go_num, by omega, hp', ?_, ?_⟩, by simp [intOf]; omega⟩
        · have h1 := row_setg HCUR.out HOL.out (g + c) (v := (g : Int) + c) (by omega)
          have h3 := row_setg h1 HOL.out ((g + 0 + c) % 1000000000) (v := ((g : Int) + c) % 1000000000) (by omega)
          rw [gs_shift] at h3
          exact h3
        · exact (hbr.setCell (p := ⟨w.heap.size, k, none⟩) (Nat.le_refl _) _).setCell (p := ⟨w.heap.size, k, none⟩) (Nat.le_refl _) _
    · obtain rfl : k = x := by omega
      have hfin := hp.out
      rw [HX.out] at hfin
      have hg := plusAt_end hfin
      have hol : o.length = k := hp.out.1
      have hcur := hcell0.out
      rw [List.drop_eq_nil_of_le (by rw [HX.out]; exact Nat.le_refl _)] at hcur
      by_cases hc0 : c = 0
      · subst hc0
        rw [if_pos rfl] at hg
        have HF := Lib.hid (And.intro hg (And.intro hol hcur))
        clear hg hol hcur hfin hp hcell0
        go_wp2
        go_ret
        obtain ⟨h1, h2, h3⟩ := HF.out
        refine ⟨w.heap.size, k + 1, ret_val (by rw [h1, h2]; rfl), by rw [h1, h2]; omega, Nat.le_refl _, ?_, hbr⟩
        rw [h1]
        exact row_of_heap h3
      · rw [if_neg hc0] at hg
        have hown : wr.ownsRow w.heap.size 111 1 (.slice (some ⟨w.heap.size, 0, none⟩) k (k + 1)) k (gs o) := by
          refine ⟨by rw [gs_length, hol, Nat.mul_one], .inr ⟨w.heap.size, k + 1, _, rfl, Nat.le_refl _, hcur, by omega, by unfold maxLen; omega, by simp [gs, hol], ?_⟩⟩
          simp only [Nat.mul_one]
          rw [show k = (gs o).length by rw [gs_length, hol], List.take_left']
          rfl
        have HOWN := Lib.hid hown
        have HF := Lib.hid (And.intro hg hol)
        have hc2 : (c : Int) ≠ 0 := by omega
        have hc3 : 0 < (c : Int) := by omega
        have hz := hbr.size
        clear hg hol hcur hfin hp hcell0 hown
        obtain ⟨i0, hi, hz0, hz1, hz2⟩ := info_parts infoU64
        go_wp2_with (at_builtin; refine wpList_append_own _ rfl _ _ 83 rfl w.heap.size 111 i0 (.int .u64 0) 1 8 Tryz.underlying83 hi hz0 hz1 hz2 rfl (by decide) _ _ _ rfl (HOWN.out.alloc _) ⟨wr.heap.size, 0, none⟩ 1 1 [.int .u64 (c : Int)] rfl rfl ?c1 ?c2 ?c3 ?c4 ?c5 ?_)
        case c1 =>
          intro j u hj
          match j, hj with
          | 0, hj => simp at hj; subst hj; simp [Addr.add]
        case c2 => intro u hu; simp at hu; subst hu; rfl
        case c3 => unfold maxLen; omega
        case c4 => omega
        case c5 => simp; omega
        intro v' w2 hown' hgrow _
        obtain ⟨g2, cap2, rfl, hg2, hg3⟩ : ∃ g2 cap2, v' = .slice (some ⟨g2, 0, none⟩) (k + 1) cap2 ∧ k + 1 ≤ cap2 ∧ w.heap.size ≤ g2 := by
          rcases hown'.2 with ⟨_, h0⟩ | ⟨g, cap, cur, hv, hbg, _, hle, _⟩
          · omega
          · exact ⟨g, cap, hv, hle, hbg⟩
        have HO := Lib.hid hown'
        clear hown'
        go_wp2
        go_ret
        obtain ⟨h1, h2⟩ := HF.out
        obtain ⟨a2, cap3, e3, hr3⟩ := row_of_owns HO.out
        obtain rfl : some ⟨g2, 0, none⟩ = a2 := by injection e3
        refine ⟨g2, cap2, ret_val (by rw [h1]; simp [h2]), by rw [h1]; simp [h2]; omega, hg3, by rw [h1, gs_append]; exact hr3, ?_⟩
        exact (hbr.alloc hz _).grown hgrow (by simp; omega) (fun q hq => by simp [Value.ownBlock] at hq; omega)

set_option maxHeartbeats 2000000 in
set_option maxRecDepth 100000 in
theorem plus_short (m n : List Nat) (a a' : Option Addr) (cap cap' : Nat) (w : World) (hle : m.length < n.length) (hlen : n.length ≤ 1000000000000) (hm : ∀ g ∈ m, g < 1000000000) (hn : ∀ g ∈ n, g < 1000000000)
    (hr : Row w a (gs m)) (hr' : Row w a' (gs n)) :
    Calls Tryz.prog 79 #[.slice a m.length cap, .slice a' n.length cap'] w fun e w' => ∃ b c, e = .returned (.slice (some ⟨b, 0, none⟩) (plusG n m).length c) ∧ (plusG n m).length ≤ c ∧ w.heap.size ≤ b ∧ Row w' (some ⟨b, 0, none⟩) (gs (plusG n m)) ∧ Below w.heap.size w w' := by
  have HM := Lib.hid (And.intro hn hm)
  have HR := Lib.hid (And.intro hr' hr)
  obtain ⟨x, hx⟩ : ∃ x, x = n.length := ⟨_, rfl⟩
  obtain ⟨y, hy⟩ : ∃ y, y = m.length := ⟨_, rfl⟩
  have HX := Lib.hid hx
  have HY := Lib.hid hy
  rw [← hx] at hle hlen ⊢
  rw [← hy] at hle ⊢
  clear hm hn hr hr' hx hy
  have hlt : y < x := by omega
  have hmk := fun W => make_mag x (x + 1) (by omega) (by omega) W
  rw [show ((x + 1 : Nat) : Int) = (x : Int) + 1 by omega] at hmk
  go_enter Tryz.func79, Tryz.ntmps79
  go_wp2_with (with_reducible refine wpList_copy_splice rfl (.tmp 21) (.tmp 22) 83 83 rfl 111 Tryz.underlying83 sizeU64 _ _ _ _ _ _ rfl rfl w.heap.size 0 (zeros (x + 1)) 111 ?h1 (gs n) ?h2 ?h3 ?h4 ?h5 w.heap.size w ?h6 ?h7 ?_)
  case h1 => exact heap_alloc_new w _
  case h2 => rw [gs_length, ← HX.out]; simp
  case h3 =>
    intro hp
    obtain ⟨b, off, ha, hlt, hc⟩ := HR.out.1.addr (by intro e; rw [e] at hp; simp at hp)
    have hq : ∃ ad, a' = some ad ∧ ∀ j v, (gs n)[j]? = some v → (w.alloc (.cells (zeros (x + 1)).toArray 111)).cell? (ad.add j) = some v := by
      refine ⟨⟨b, off, none⟩, ha, fun j v hj => ?_⟩
      rw [addr_add]
      exact Lib.cell?_alloc_some _ (hc j v hj)
    first | exact ⟨rfl, hq⟩ | exact hq
  case h4 => rw [gs_length, ← HX.out]; simp [zeros]
  case h5 => exact gs_one n
  case h6 => exact (Below.refl _ _).alloc (Nat.le_refl _) _
  case h7 => exact Nat.le_refl _
  intro w1 hrow hb1
  have hrow : Hid (w1.heap[w.heap.size]? = some (.cells (gs n ++ [Value.int .u64 0]).toArray 111 (0, 0))) := by
    have := hrow.out
    rw [show splice (zeros (x + 1)) 0 (gs n) = gs n ++ [Value.int .u64 0] by
      unfold splice zeros
      rw [gs_length, ← HX.out, List.take_zero, List.nil_append, Nat.zero_add, List.drop_replicate, show x + 1 - x = 1 by omega]; rfl] at this
    exact this
  go_wp2
  go_loopw [6, 7, 26] (fun cy _ i wr => ∃ (k : Nat) (o : List Nat) (c : Nat), k ≤ x ∧ i = .int .i64 (k : Int) ∧ cy = .int .u64 (c : Int) ∧ c ≤ 1 ∧ Hid (PlusAt n m k o c) ∧ Hid (wr.heap[w.heap.size]? = some (.cells (gs o ++ (gs (n.drop k) ++ [Value.int .u64 0])).toArray 111 (0, 0))) ∧ Below w.heap.size w wr) (fun _ _ i _ => x - (intOf i).toNat)
  case atStart => exact ⟨0, [], 0, Nat.zero_le _, rfl, rfl, by decide, plusAt_zero n m, hrow, hb1⟩
  case round =>
    obtain ⟨k, o, c, hk, rfl, rfl, hc1, hp, hcell0, hbr⟩ := hrel
    by_cases hkx : k < x
    · have hkm : k < n.length := by have := HX.out; omega
      have hp' := Lib.hid (plusAt_succ hp.out hkm HM.out.1 HM.out.2)
      have hol : o.length = k := hp.out.1
      have hgm := HM.out.1 _ (mem_getD hkm)
      have hdr := drop_cons_getD n k hkm
      have hcur := hcell0.out
      rw [hdr] at hcur
      generalize n.getD k 0 = g at *
      have HOL := Lib.hid hol
      have hz := hbr.size
      have hpos : w.heap.size < wr.heap.size := (Array.getElem?_eq_some_iff.1 hcur).1
      have hck : wr.cell? ⟨w.heap.size, k, none⟩ = some (.int .u64 (g : Int)) := by
        rw [Lib.cell_of_heap hcur, ← HOL.out]
        simp [gs]
      have hfk : wr.frozen? ⟨w.heap.size, k, none⟩ = false := Lib.frozen_of_heap hcur k
      have HCUR := Lib.hid hcur
      clear hcur hdr hol hcell0
      by_cases hky : k < y
      · have hkn : k < m.length := by have := HY.out; omega
        have hgn := HM.out.2 _ (mem_getD hkn)
        obtain ⟨b', off', ha', hlt', hc'⟩ := HR.out.2.addr (by intro e; have := congrArg List.length e; rw [gs_length] at this; simp at this; rw [this] at hkn; simp at hkn)
        have hcn := hc' k _ (gs_get m k hkn)
        have hcn2 : wr.cell? ⟨b', off' + k, none⟩ = some (.int .u64 ((m.getD k 0 : Nat) : Int)) := (hbr.cell (p := ⟨b', off' + k, none⟩) hlt').trans hcn
        have hne : b' ≠ w.heap.size := by omega
        generalize m.getD k 0 = g' at *
        subst ha'
        clear hc' hcn
        go_wp2
        go_region
        go_wp2
        refine ⟨⟨k + 1, o ++ [(g + g' + c) % 1000000000], (g + g' + c) / 1000000000, by omega, by go_num, by go_num, by omega, hp', ?_, ?_⟩, by simp [intOf]; omega⟩
        · have h1 := row_setg HCUR.out HOL.out (g + c) (v := (g : Int) + c) (by omega)
          have h2 := row_setg h1 HOL.out (g + g' + c) (v := (g : Int) + c + g') (by omega)
          have h3 := row_setg h2 HOL.out ((g + g' + c) % 1000000000) (v := ((g : Int) + c + g') % 1000000000) (by omega)
          rw [gs_shift] at h3
          exact h3
        · exact (((hbr.setCell (p := ⟨w.heap.size, k, none⟩) (Nat.le_refl _) _).setCell (p := ⟨w.heap.size, k, none⟩) (Nat.le_refl _) _).setCell (p := ⟨w.heap.size, k, none⟩) (Nat.le_refl _) _).drew
      · have e0 : m.getD k 0 = 0 := by rw [List.getD_eq_getElem?_getD, List.getElem?_eq_none (by have := HY.out; omega)]; rfl
        rw [e0] at hp'
        clear e0
        go_wp2
        refine ⟨⟨k + 1, o ++ [(g + 0 + c) % 1000000000], (g + 0 + c) / 1000000000, by omega, by go_num, by go_num, by omega, hp', ?_, ?_⟩, by simp [intOf]; omega⟩
        · have h1 := row_setg HCUR.out HOL.out (g + c) (v := (g : Int) + c) (by omega)
          have h3 := row_setg h1 HOL.out ((g + 0 + c) % 1000000000) (v := ((g : Int) + c) % 1000000000) (by omega)
          rw [gs_shift] at h3
          exact h3
        · exact (hbr.setCell (p := ⟨w.heap.size, k, none⟩) (Nat.le_refl _) _).setCell (p := ⟨w.heap.size, k, none⟩) (Nat.le_refl _) _
    · obtain rfl : k = x := by omega
      have hfin := hp.out
      rw [HX.out] at hfin
      have hg := plusAt_end hfin
      have hol : o.length = k := hp.out.1
      have hcur := hcell0.out
      rw [List.drop_eq_nil_of_le (by rw [HX.out]; exact Nat.le_refl _)] at hcur
      by_cases hc0 : c = 0
      · subst hc0
        rw [if_pos rfl] at hg
        have HF := Lib.hid (And.intro hg (And.intro hol hcur))
        clear hg hol hcur hfin hp hcell0
        go_wp2
        go_ret
        obtain ⟨h1, h2, h3⟩ := HF.out
        refine ⟨w.heap.size, k + 1, ret_val (by rw [h1, h2]; rfl), by rw [h1, h2]; omega, Nat.le_refl _, ?_, hbr⟩
        rw [h1]
        exact row_of_heap h3
      · rw [if_neg hc0] at hg
        have hown : wr.ownsRow w.heap.size 111 1 (.slice (some ⟨w.heap.size, 0, none⟩) k (k + 1)) k (gs o) := by
          refine ⟨by rw [gs_length, hol, Nat.mul_one], .inr ⟨w.heap.size, k + 1, _, rfl, Nat.le_refl _, hcur, by omega, by unfold maxLen; omega, by simp [gs, hol], ?_⟩⟩
          simp only [Nat.mul_one]
          rw [show k = (gs o).length by rw [gs_length, hol], List.take_left']
          rfl
        have HOWN := Lib.hid hown
        have HF := Lib.hid (And.intro hg hol)
        have hc2 : (c : Int) ≠ 0 := by omega
        have hc3 : 0 < (c : Int) := by omega
        have hz := hbr.size
        clear hg hol hcur hfin hp hcell0 hown
        obtain ⟨i0, hi, hz0, hz1, hz2⟩ := info_parts infoU64
        go_wp2_with (at_builtin; refine wpList_append_own _ rfl _ _ 83 rfl w.heap.size 111 i0 (.int .u64 0) 1 8 Tryz.underlying83 hi hz0 hz1 hz2 rfl (by decide) _ _ _ rfl (HOWN.out.alloc _) ⟨wr.heap.size, 0, none⟩ 1 1 [.int .u64 (c : Int)] rfl rfl ?c1 ?c2 ?c3 ?c4 ?c5 ?_)
        case c1 =>
          intro j u hj
          match j, hj with
          | 0, hj => simp at hj; subst hj; simp [Addr.add]
        case c2 => intro u hu; simp at hu; subst hu; rfl
        case c3 => unfold maxLen; omega
        case c4 => omega
        case c5 => simp; omega
        intro v' w2 hown' hgrow _
        obtain ⟨g2, cap2, rfl, hg2, hg3⟩ : ∃ g2 cap2, v' = .slice (some ⟨g2, 0, none⟩) (k + 1) cap2 ∧ k + 1 ≤ cap2 ∧ w.heap.size ≤ g2 := by
          rcases hown'.2 with ⟨_, h0⟩ | ⟨g, cap', cur, hv, hbg, _, hle, _⟩
          · omega
          · exact ⟨g, cap', hv, hle, hbg⟩
        have HO := Lib.hid hown'
        clear hown'
        go_wp2
        go_ret
        obtain ⟨h1, h2⟩ := HF.out
        obtain ⟨a2, cap3, e3, hr3⟩ := row_of_owns HO.out
        obtain rfl : some ⟨g2, 0, none⟩ = a2 := by injection e3
        refine ⟨g2, cap2, ret_val (by rw [h1]; simp [h2]), by rw [h1]; simp [h2]; omega, hg3, by rw [h1, gs_append]; exact hr3, ?_⟩
        exact (hbr.alloc hz _).grown hgrow (by simp; omega) (fun q hq => by simp [Value.ownBlock] at hq; omega)


theorem plus_any (x y : Nat) (a a' : Option Addr) (cap cap' : Nat) (w : World) (h1 : (groupsOf x).length ≤ 1000000000000) (h2 : (groupsOf y).length ≤ 1000000000000)
    (hr : Row w a (gs (groupsOf x))) (hr' : Row w a' (gs (groupsOf y))) :
    Calls Tryz.prog 79 #[.slice a (groupsOf x).length cap, .slice a' (groupsOf y).length cap'] w fun e w' => ∃ b c, e = .returned (.slice (some ⟨b, 0, none⟩) (groupsOf (x + y)).length c) ∧ (groupsOf (x + y)).length ≤ c ∧ w.heap.size ≤ b ∧ Row w' (some ⟨b, 0, none⟩) (gs (groupsOf (x + y))) ∧ Below w.heap.size w w' := by
  by_cases h : (groupsOf y).length ≤ (groupsOf x).length
  · have := plus_long (groupsOf x) (groupsOf y) a a' cap cap' w h h1 (groupsOf_lt x) (groupsOf_lt y) hr hr'
    rwa [plusG_eq (groupsOf_norm x) (groupsOf_norm y) h, gval_groupsOf, gval_groupsOf] at this
  · have := plus_short (groupsOf x) (groupsOf y) a a' cap cap' w (by omega) h2 (groupsOf_lt x) (groupsOf_lt y) hr hr'
    rwa [plusG_eq (groupsOf_norm y) (groupsOf_norm x) (by omega), gval_groupsOf, gval_groupsOf, Nat.add_comm] at this
end Go.Proofs.YthlpfefckhdpiaaGreatDoor
