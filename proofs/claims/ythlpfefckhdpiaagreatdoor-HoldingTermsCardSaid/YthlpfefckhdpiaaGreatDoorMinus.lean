/- The walk of (magnitude).minus. -/
import Derived.Test.YthlpfefckhdpiaaGreatDoorPlus
namespace Go.Proofs.YthlpfefckhdpiaaGreatDoor
open Go.RowKit Num

set_option maxHeartbeats 1000000 in
set_option maxRecDepth 100000 in
theorem clone_mag (m : List Nat) (b off cap : Nat) (w : World) (hm : m ≠ []) (hlen : m.length ≤ 1000000000000) (hc : ∀ k u, (gs m)[k]? = some u → w.cell? ⟨b, off + k, none⟩ = some u) :
    Calls Tryz.prog 119 #[.slice (some ⟨b, off, none⟩) m.length cap] w fun e w' => ∃ v, e = .returned v ∧ w'.ownsRow w.heap.size 111 1 v m.length (gs m) ∧ Below w.heap.size w w' := by
  obtain ⟨i0, hi, hz0, hz1, hz2⟩ := info_parts infoU64
  have HC := Lib.hid hc
  have HM := Lib.hid hm
  obtain ⟨x, hx⟩ : ∃ x, x = m.length := ⟨_, rfl⟩
  have HX := Lib.hid hx
  rw [← hx] at hlen ⊢
  clear hc hm hx
  have hnil := fun W => Lib.run_eql_slice_nil (P := Tryz.prog) W 83 111 (some ⟨b, off, none⟩) x cap 0 0 Tryz.underlying83
  go_enter Tryz.func119, Tryz.ntmps119
  have hown0 : ∀ W : World, w.heap.size ≤ W.heap.size → (W.alloc (.cells #[] 111)).ownsRow w.heap.size 111 1 (.slice (some ⟨W.heap.size, 0, none⟩) 0 0) 0 [] := fun W hW => World.ownsRow_made W #[] 0 hW (by decide) (by simp)
  have HO := Lib.hid hown0
  clear hown0
  go_wp2_with (at_builtin; refine wpList_append_own _ rfl _ _ 83 rfl w.heap.size 111 i0 (.int .u64 0) 1 8 Tryz.underlying83 hi hz0 hz1 hz2 rfl (by decide) _ _ _ rfl (HO.out w (Nat.le_refl _)) ⟨b, off, none⟩ x cap (gs m) rfl ?c0 ?c1 ?c2 ?c3 ?c4 ?c5 ?_)
  case c0 => rw [gs_length, ← HX.out, Nat.mul_one]
  case c1 => intro j u hj; rw [addr_add]; exact Lib.cell?_alloc_some _ (HC.out j u hj)
  case c2 => exact gs_one m
  case c3 => unfold maxLen; omega
  case c4 => omega
  case c5 => simp
  intro v' w2 hown' hgrow _
  have H1 := Lib.hid hown'
  clear hown'
  go_wp2
  go_ret
  refine ⟨v', rfl, ?_, ?_⟩
  · exact H1.out
  · exact ((Below.refl _ _).alloc (Nat.le_refl _) _).grown hgrow (by simp) (fun q hq => by simp [Value.ownBlock] at hq; omega)

theorem cutZ_split (m : List Nat) : ∃ z, m = cutZ m ++ z := by
  generalize hk : m.length = k
  induction k generalizing m with
  | zero => exact ⟨[], by rw [List.eq_nil_of_length_eq_zero hk]; rfl⟩
  | succ k ih =>
    obtain ⟨r, c, rfl⟩ : ∃ r c, m = r ++ [c] := snoc_of (by intro h; rw [h] at hk; simp at hk)
    by_cases hc : c = 0
    · subst hc
      rw [cutZ_snoc_zero]
      obtain ⟨z, hz⟩ := ih r (by simp at hk; omega)
      exact ⟨z ++ [0], by rw [← List.append_assoc, ← hz]⟩
    · rw [cutZ_snoc_pos _ _ hc]; exact ⟨[], by simp⟩
theorem cutZ_length (m : List Nat) : (cutZ m).length ≤ m.length := by
  obtain ⟨z, hz⟩ := cutZ_split m
  have := congrArg List.length hz
  rw [List.length_append] at this
  omega
theorem row_cut {w : World} {a : Option Addr} {m : List Nat} (h : Row w a (gs m)) : Row w a (gs (cutZ m)) := by
  obtain ⟨z, hz⟩ := cutZ_split m
  rw [hz, gs_append] at h
  exact h.take

set_option maxHeartbeats 2000000 in
set_option maxRecDepth 100000 in
theorem minus_some (m n : List Nat) (b off cap : Nat) (a' : Option Addr) (cap' : Nat) (w : World) (hm0 : m ≠ []) (hle : n.length ≤ m.length) (hlen : m.length ≤ 1000000000000) (hm : ∀ g ∈ m, g < 1000000000) (hn : ∀ g ∈ n, g < 1000000000)
    (hc : ∀ k u, (gs m)[k]? = some u → w.cell? ⟨b, off + k, none⟩ = some u) (hr' : Row w a' (gs n)) :
    Calls Tryz.prog 81 #[.slice (some ⟨b, off, none⟩) m.length cap, .slice a' n.length cap'] w fun e w' => ∃ a c, e = .returned (.slice a (cutZ (minusC m n 0).1).length c) ∧ (cutZ (minusC m n 0).1).length ≤ c ∧ Fresh w.heap.size a ∧ Row w' a (gs (cutZ (minusC m n 0).1)) ∧ Below w.heap.size w w' := by
  have HCL := Lib.hid (clone_mag m b off cap w hm0 hlen hc)
  have HM := Lib.hid (And.intro hm hn)
  have HR := Lib.hid hr'
  obtain ⟨x, hx⟩ : ∃ x, x = m.length := ⟨_, rfl⟩
  obtain ⟨y, hy⟩ : ∃ y, y = n.length := ⟨_, rfl⟩
  have HX := Lib.hid hx
  have HY := Lib.hid hy
  have hx0 : 0 < x := by rw [hx]; exact List.length_pos_iff.2 hm0
  rw [← hx] at hle hlen HCL ⊢
  rw [← hy] at hle ⊢
  clear hm hn hr' hx hy hc hm0
  go_enter Tryz.func81, Tryz.ntmps81
  go_wp2_with (go_at_call 119; refine HCL.out.mono ?_)
  rintro e w1 ⟨v, rfl, hown, hb1⟩
  obtain ⟨g0, cp, cur, rfl, hB, hg0, hcp, hcp2, hcs, htk⟩ : ∃ g0 cp cur, v = .slice (some ⟨g0, 0, none⟩) x cp ∧ w.heap.size ≤ g0 ∧ w1.heap[g0]? = some (.cells cur 111 (0, 0)) ∧ x ≤ cp ∧ cp ≤ maxLen ∧ cur.size = cp * 1 ∧ cur.toList.take (x * 1) = gs m := by
    rcases hown.2 with ⟨_, h0⟩ | ⟨g, cap, cur, hv, h1, h2, h3, h4, h5, h6⟩
    · omega
    · exact ⟨g, cap, cur, hv, h1, h2, h3, h4, h5, h6⟩
  have hrow : Hid (∃ z, w1.heap[g0]? = some (.cells (gs m ++ z).toArray 111 (0, 0))) := by
    refine ⟨cur.toList.drop x, ?_⟩
    rw [← htk, Nat.mul_one, List.take_append_drop]
    exact hg0
  clear hown hg0 hcs htk
  obtain ⟨z, hrow⟩ := hrow
  have HROW := Lib.hid hrow
  clear hrow
  unfold maxLen at hcp2
  go_wp2
  go_loopw [6, 7, 8, 13] (fun cy _ _ i wr => ∃ (k : Nat) (o : List Nat) (c : Nat), k ≤ x ∧ i = .int .i64 (k : Int) ∧ cy = .int .u64 (c : Int) ∧ c ≤ 1 ∧ Hid (MinusAt m n k o c) ∧ Hid (wr.heap[g0]? = some (.cells (gs o ++ (gs (m.drop k) ++ z)).toArray 111 (0, 0))) ∧ Below w.heap.size w wr) (fun _ _ _ i _ => x - (intOf i).toNat)
  case atStart => exact ⟨0, [], 0, Nat.zero_le _, rfl, rfl, by decide, minusAt_zero m n, HROW, hb1⟩
  case round =>
    obtain ⟨k, o, c, hk, rfl, rfl, hc1, hp, hcell0, hbr⟩ := hrel
    by_cases hkx : k < x
    · have hkm : k < m.length := by have := HX.out; omega
      have hp1 := Lib.hid (fun h => minusAt_lt hp.out hkm h)
      have hp2 := Lib.hid (fun h => minusAt_ge hp.out hkm h)
      have hol : o.length = k := hp.out.1
      have hgm := HM.out.1 _ (mem_getD hkm)
      have hdr := drop_cons_getD m k hkm
      have hcur := hcell0.out
      rw [hdr] at hcur
      generalize m.getD k 0 = g at *
      have HOL := Lib.hid hol
      have hz := hbr.size
      have hpos : g0 < wr.heap.size := (Array.getElem?_eq_some_iff.1 hcur).1
      have hck : wr.cell? ⟨g0, k, none⟩ = some (.int .u64 (g : Int)) := by
        rw [Lib.cell_of_heap hcur, ← HOL.out]
        simp [gs]
      have hfk : wr.frozen? ⟨g0, k, none⟩ = false := Lib.frozen_of_heap hcur k
      have HCUR := Lib.hid hcur
      clear hcur hdr hol hcell0
      by_cases hky : k < y
      · have hkn : k < n.length := by have := HY.out; omega
        have hgn := HM.out.2 _ (mem_getD hkn)
        obtain ⟨b', off', ha', hlt', hc'⟩ := HR.out.addr (by intro e; have := congrArg List.length e; rw [gs_length] at this; simp at this; rw [this] at hkn; simp at hkn)
        have hcn := hc' k _ (gs_get n k hkn)
        have hcn2 : wr.cell? ⟨b', off' + k, none⟩ = some (.int .u64 ((n.getD k 0 : Nat) : Int)) := (hbr.cell (p := ⟨b', off' + k, none⟩) hlt').trans hcn
        generalize n.getD k 0 = g' at *
        subst ha'
        clear hc' hcn
        by_cases hgl : g < c + g'
        · have hpp := Lib.hid (hp1.out hgl)
          clear hp1 hp2
          go_wp2
          refine ⟨⟨k + 1, o ++ [g + 1000000000 - (c + g')], 1, by omega, by go_num, rfl, by decide, hpp, ?_, ?_⟩, by simp [intOf]; omega⟩
          · have h1 := row_setg HCUR.out HOL.out (g + 1000000000) (v := (g : Int) + 1000000000) (by omega)
            have h2 := row_setg h1 HOL.out (g + 1000000000 - (c + g')) (v := (g : Int) + 1000000000 - (c + g')) (by omega)
            rw [gs_shift] at h2
            exact h2
          · exact (hbr.setCell (p := ⟨g0, k, none⟩) hB _).setCell (p := ⟨g0, k, none⟩) hB _
        · have hpp := Lib.hid (hp2.out hgl)
          clear hp1 hp2
          go_wp2
          refine ⟨⟨k + 1, o ++ [g - (c + g')], 0, by omega, by go_num, rfl, by decide, hpp, ?_, ?_⟩, by simp [intOf]; omega⟩
          · have h2 := row_setg HCUR.out HOL.out (g - (c + g')) (v := (g : Int) - (c + g')) (by omega)
            rw [gs_shift] at h2
            exact h2
          · exact hbr.setCell (p := ⟨g0, k, none⟩) hB _
      · have e0 : n.getD k 0 = 0 := by rw [List.getD_eq_getElem?_getD, List.getElem?_eq_none (by have := HY.out; omega)]; rfl
        rw [e0] at hp1 hp2
        clear e0
        by_cases hgl : g < c + 0
        · have hpp := Lib.hid (hp1.out hgl)
          clear hp1 hp2
          go_wp2
          refine ⟨⟨k + 1, o ++ [g + 1000000000 - (c + 0)], 1, by omega, by go_num, rfl, by decide, hpp, ?_, ?_⟩, by simp [intOf]; omega⟩
          · have h1 := row_setg HCUR.out HOL.out (g + 1000000000) (v := (g : Int) + 1000000000) (by omega)
            have h2 := row_setg h1 HOL.out (g + 1000000000 - (c + 0)) (v := (g : Int) + 1000000000 - c) (by omega)
            rw [gs_shift] at h2
            exact h2
          · exact (hbr.setCell (p := ⟨g0, k, none⟩) hB _).setCell (p := ⟨g0, k, none⟩) hB _
        · have hpp := Lib.hid (hp2.out hgl)
          clear hp1 hp2
          go_wp2
          refine ⟨⟨k + 1, o ++ [g - (c + 0)], 0, by omega, by go_num, rfl, by decide, hpp, ?_, ?_⟩, by simp [intOf]; omega⟩
          · have h2 := row_setg HCUR.out HOL.out (g - (c + 0)) (v := (g : Int) - c) (by omega)
            rw [gs_shift] at h2
            exact h2
          · exact hbr.setCell (p := ⟨g0, k, none⟩) hB _
    · obtain rfl : k = x := by omega
      have hfin := hp.out
      rw [HX.out] at hfin
      have hg := minusAt_end hfin
      have hol : o.length = k := hp.out.1
      have hcur := hcell0.out
      rw [List.drop_eq_nil_of_le (by rw [HX.out]; exact Nat.le_refl _)] at hcur
      have hcut := cut_some o g0 0 cp wr (by omega) (by omega) (fun j u hj => by
        have hr := row_of_heap hcur
        obtain ⟨b2, off2, e2, _, hc2⟩ := hr.addr (by intro e; have := congrArg List.length e; rw [gs_length] at this; simp at this; rw [this] at hol; simp at hol; omega)
        injection e2 with e2
        injection e2 with e3 e4
        subst e3 e4
        exact hc2 j u hj)
      rw [hol] at hcut
      have HCUT := Lib.hid hcut
      have HF := Lib.hid (And.intro hg (And.intro hol hcur))
      clear hg hol hcur hfin hp hcell0 hcut
      go_wp2_with (go_at_call 84; refine HCUT.out.mono ?_; rintro e w2 ⟨rfl, rfl⟩)
      go_ret
      obtain ⟨h1, h2, h3⟩ := HF.out
      rw [h1]
      refine ⟨some ⟨g0, 0, none⟩, cp, rfl, ?_, Fresh.of hB, ?_, hbr⟩
      · have := cutZ_length o; omega
      · exact row_cut (row_of_heap h3)

theorem clone_none (n cap : Nat) (w : World) :
    Calls Tryz.prog 119 #[.slice none n cap] w fun e w' => e = .returned (.slice none 0 0) ∧ w = w' := by
  have hnil := fun W => Lib.run_eql_slice_nil (P := Tryz.prog) W 83 111 none n cap 0 0 Tryz.underlying83
  go_enter Tryz.func119, Tryz.ntmps119
  go_wp2
  go_ret
  exact ⟨rfl, rfl⟩
set_option maxHeartbeats 1000000 in
set_option maxRecDepth 100000 in
theorem clone_empty (ad : Addr) (cap : Nat) (w : World) :
    Calls Tryz.prog 119 #[.slice (some ad) 0 cap] w fun e w' => ∃ a c, e = .returned (.slice a 0 c) ∧ Fresh w.heap.size a ∧ Below w.heap.size w w' := by
  obtain ⟨i0, hi, hz0, hz1, hz2⟩ := info_parts infoU64
  have hnil := fun W => Lib.run_eql_slice_nil (P := Tryz.prog) W 83 111 (some ad) 0 cap 0 0 Tryz.underlying83
  have hown0 : ∀ W : World, w.heap.size ≤ W.heap.size → (W.alloc (.cells #[] 111)).ownsRow w.heap.size 111 1 (.slice (some ⟨W.heap.size, 0, none⟩) 0 0) 0 [] := fun W hW => World.ownsRow_made W #[] 0 hW (by decide) (by simp)
  have HO := Lib.hid hown0
  clear hown0
  go_enter Tryz.func119, Tryz.ntmps119
  go_wp2_with (at_builtin; refine wpList_append_own _ rfl _ _ 83 rfl w.heap.size 111 i0 (.int .u64 0) 1 8 Tryz.underlying83 hi hz0 hz1 hz2 rfl (by decide) _ _ _ rfl (HO.out w (Nat.le_refl _)) ad 0 cap [] rfl ?c0 ?c1 ?c2 ?c3 ?c4 ?c5 ?_)
  case c0 => rfl
  case c1 => intro j u hj; simp at hj
  case c2 => intro u hu; simp at hu
  case c3 => decide
  case c4 => decide
  case c5 => simp
  intro v' w2 hown' hgrow _
  obtain ⟨a, c, rfl, hfr⟩ : ∃ a c, v' = .slice a 0 c ∧ Fresh w.heap.size a := by
    rcases hown'.2 with ⟨h, _⟩ | ⟨g, cap, cur, hv, hbg, _⟩
    · exact ⟨none, 0, h, Fresh.none _⟩
    · exact ⟨some ⟨g, 0, none⟩, cap, hv, Fresh.of hbg⟩
  have HF := Lib.hid hfr
  clear hown' hfr
  go_wp2
  go_ret
  exact ⟨a, c, rfl, HF.out, ((Below.refl _ _).alloc (Nat.le_refl _) _).grown hgrow (by simp) (fun q hq => by simp [Value.ownBlock] at hq; omega)⟩
set_option maxHeartbeats 1000000 in
set_option maxRecDepth 100000 in
theorem minus_zero (a a' : Option Addr) (cap cap' : Nat) (w : World) :
    Calls Tryz.prog 81 #[.slice a 0 cap, .slice a' 0 cap'] w fun e w' => ∃ b c, e = .returned (.slice b 0 c) ∧ Fresh w.heap.size b ∧ Below w.heap.size w w' := by
  have HC : Hid (Calls Tryz.prog 119 #[.slice a 0 cap] w fun e w' => ∃ b c, e = .returned (.slice b 0 c) ∧ Fresh w.heap.size b ∧ Below w.heap.size w w') := by
    cases a with
    | none => exact (clone_none 0 cap w).mono fun e w' ⟨he, hw⟩ => ⟨none, 0, he, Fresh.none _, by rw [← hw]; exact Below.refl _ _⟩
    | some ad => exact clone_empty ad cap w
  go_enter Tryz.func81, Tryz.ntmps81
  go_wp2_with (go_at_call 119; refine HC.out.mono ?_)
  rintro e w1 ⟨b, c, rfl, hf, hb1⟩
  have HF := Lib.hid hf
  clear hf
  go_wp2
  refine wp_loop_once ?_
  go_wp2_with (go_at_call 84; refine (cut_nil b c _).mono ?_; rintro e w2 ⟨rfl, rfl⟩)
  go_ret
  exact ⟨b, c, rfl, HF.out, hb1⟩

theorem minus_any (x y : Nat) (a a' : Option Addr) (cap cap' : Nat) (w : World) (hxy : y ≤ x) (h1 : (groupsOf x).length ≤ 1000000000000)
    (hr : Row w a (gs (groupsOf x))) (hr' : Row w a' (gs (groupsOf y))) :
    Calls Tryz.prog 81 #[.slice a (groupsOf x).length cap, .slice a' (groupsOf y).length cap'] w fun e w' => ∃ b c, e = .returned (.slice b (groupsOf (x - y)).length c) ∧ (groupsOf (x - y)).length ≤ c ∧ Fresh w.heap.size b ∧ Row w' b (gs (groupsOf (x - y))) ∧ Below w.heap.size w w' := by
  by_cases hx : x = 0
  · subst hx
    obtain rfl : y = 0 := by omega
    rw [groupsOf_zero]
    refine (minus_zero a a' cap cap' w).mono ?_
    rintro e w' ⟨b, c, he, hf, hb⟩
    exact ⟨b, c, he, Nat.zero_le _, hf, .inl rfl, hb⟩
  have hne : groupsOf x ≠ [] := by rw [Ne, groupsOf_nil_iff]; exact hx
  obtain ⟨b, off, rfl, _, hc⟩ := hr.addr (gs_ne hne)
  have hl := len_le_of_lt hxy
  have := minus_some (groupsOf x) (groupsOf y) b off cap a' cap' w hne hl h1 (groupsOf_lt x) (groupsOf_lt y) hc hr'
  rwa [minusG_eq (groupsOf_norm x) (groupsOf_norm y) (by rw [gval_groupsOf, gval_groupsOf]; exact hxy) hl, gval_groupsOf, gval_groupsOf] at this
end Go.Proofs.YthlpfefckhdpiaaGreatDoor
