/- The walks of package integer's functions on groups: cut, compare, plus, minus. -/
import Derived.Test.YthlpfefckhdpiaaGreatDoorMem
import Derived.Test.YthlpfefckhdpiaaGreatDoorMag
import Derived.RegionTactic
import Derived.Deep.QuietTactic
import Derived.BigQuiet
namespace Go.Proofs.YthlpfefckhdpiaaGreatDoor
open Go.RowKit Num

/-- groups as cells -/
def gs (m : List Nat) : List Value := m.map fun (g : Nat) => Value.int .u64 (g : Int)
theorem gs_length (m : List Nat) : (gs m).length = m.length := by simp [gs]
theorem gs_get (m : List Nat) (k : Nat) (h : k < m.length) : (gs m)[k]? = some (.int .u64 ((m.getD k 0 : Nat) : Int)) := by
  simp [gs, List.getElem?_map, List.getElem?_eq_getElem h, List.getD_eq_getElem?_getD]
theorem gs_ne {m : List Nat} (h : m ≠ []) : gs m ≠ [] := by simp [gs, h]
def lenOf : Value → Nat | .slice _ n _ => n | _ => 0
theorem take_snoc_getD (m : List Nat) (k : Nat) (h : k < m.length) : m.take (k + 1) = m.take k ++ [m.getD k 0] := by
  rw [List.take_succ_eq_append_getElem h, List.getD_eq_getElem?_getD, List.getElem?_eq_getElem h]; rfl
theorem mem_getD {m : List Nat} {k : Nat} (h : k < m.length) : m.getD k 0 ∈ m := by
  rw [List.getD_eq_getElem?_getD, List.getElem?_eq_getElem h]; exact List.getElem_mem h

theorem cut_nil (a : Option Addr) (cap : Nat) (w : World) :
    Calls Tryz.prog 84 #[.slice a 0 cap] w fun e w' => e = .returned (.slice a 0 cap) ∧ w = w' := by
  go_enter Tryz.func84, Tryz.ntmps84
  go_wp2
  refine wp_loop_once ?_
  go_wp2
  go_ret
  exact ⟨rfl, rfl⟩

theorem cut_some (m : List Nat) (b off cap : Nat) (w : World) (hl : m.length ≤ cap) (h63 : m.length ≤ 9223372036854775807) (hc : ∀ k u, (gs m)[k]? = some u → w.cell? ⟨b, off + k, none⟩ = some u) :
    Calls Tryz.prog 84 #[.slice (some ⟨b, off, none⟩) m.length cap] w fun e w' => e = .returned (.slice (some ⟨b, off, none⟩) (cutZ m).length cap) ∧ w = w' := by
  have HC := Lib.hid hc
  obtain ⟨n, hn⟩ : ∃ n, n = m.length := ⟨_, rfl⟩
  have HN := Lib.hid hn
  rw [← hn] at hl h63 ⊢
  clear hc hn
  have HT := Lib.hid (show cutZ (m.take n) = cutZ m by rw [HN.out, List.take_length])
  go_enter Tryz.func84, Tryz.ntmps84
  go_wp2
  go_loop [0] (fun v => ∃ k : Nat, k ≤ n ∧ v = .slice (some ⟨b, off, none⟩) k cap ∧ Hid (cutZ (m.take k) = cutZ m)) (fun v => lenOf v)
  case atStart => exact ⟨n, Nat.le_refl _, rfl, HT⟩
  case round =>
    obtain ⟨k, hk, rfl, hrel⟩ := hrel
    clear HT
    rcases Nat.eq_zero_or_pos k with rfl | hpos
    · go_wp2
      go_ret
      exact ⟨ret_val (by rw [← hrel.out]; simp [cutZ]), rfl⟩
    · obtain ⟨j, rfl⟩ : ∃ j, k = j + 1 := ⟨k - 1, by omega⟩
      have hcell := HC.out j _ (gs_get m j (by have := HN.out; omega))
      have hs := take_snoc_getD m j (by have := HN.out; omega)
      generalize m.getD j 0 = g at *
      have HS := Lib.hid hs
      clear hs
      by_cases hg : g = 0
      · subst hg
        go_wp2
        go_round
        case rel => exact ⟨j, by omega, rfl, by rw [← hrel.out, HS.out, cutZ_snoc_zero]; exact rfl⟩
        case measure => simp [lenOf]
      · have hg' : ((g : Int) == 0) = false := by simp; omega
        go_wp2
        go_ret
        exact ⟨ret_val (by rw [← hrel.out, HS.out, cutZ_snoc_pos _ _ hg, ← HS.out]; simp; have := HN.out; omega), rfl⟩

theorem cut_any (m : List Nat) (a : Option Addr) (cap : Nat) (w : World) (hl : m.length ≤ cap) (h63 : m.length ≤ 9223372036854775807) (hr : Row w a (gs m)) :
    Calls Tryz.prog 84 #[.slice a m.length cap] w fun e w' => e = .returned (.slice a (cutZ m).length cap) ∧ w = w' := by
  by_cases hm : m = []
  · subst hm; exact cut_nil a cap w
  · obtain ⟨b, off, rfl, hlt, hc⟩ := hr.addr (gs_ne hm)
    exact cut_some m b off cap w hl h63 hc

theorem compare_len (m n : List Nat) (a a' : Option Addr) (cap cap' : Nat) (w : World) (h1 : m.length ≤ 9223372036854775807) (h2 : n.length ≤ 9223372036854775807) (hne : m.length ≠ n.length) :
    Calls Tryz.prog 80 #[.slice a m.length cap, .slice a' n.length cap'] w fun e w' => e = .returned (.int .i64 (cmpV m n)) ∧ w = w' := by
  have hv := Lib.hid (cmpV_len hne)
  have hb : ((m.length : Int) != n.length) = true := by simp; omega
  generalize m.length = x at *
  generalize n.length = y at *
  clear hne
  go_enter Tryz.func80, Tryz.ntmps80
  go_wp2
  go_ret
  exact ⟨ret_int hv.out.symm, rfl⟩
theorem compare_zero (a a' : Option Addr) (cap cap' : Nat) (w : World) :
    Calls Tryz.prog 80 #[.slice a 0 cap, .slice a' 0 cap'] w fun e w' => e = .returned (.int .i64 0) ∧ w = w' := by
  go_enter Tryz.func80, Tryz.ntmps80
  go_wp2
  refine wp_loop_once ?_
  go_wp2
  go_ret
  exact ⟨rfl, rfl⟩
theorem compare_some (m n : List Nat) (b off b' off' cap cap' : Nat) (w : World) (h1 : m.length ≤ 9223372036854775807) (he : n.length = m.length) (hm : ∀ g ∈ m, g < 1000000000) (hn : ∀ g ∈ n, g < 1000000000)
    (hc : ∀ k u, (gs m)[k]? = some u → w.cell? ⟨b, off + k, none⟩ = some u) (hc' : ∀ k u, (gs n)[k]? = some u → w.cell? ⟨b', off' + k, none⟩ = some u) :
    Calls Tryz.prog 80 #[.slice (some ⟨b, off, none⟩) m.length cap, .slice (some ⟨b', off', none⟩) n.length cap'] w fun e w' => e = .returned (.int .i64 (cmpV m n)) ∧ ∃ q, w' = w.drewN q := by
  have HC := Lib.hid hc
  have HC' := Lib.hid hc'
  have HM := Lib.hid (And.intro hm hn)
  obtain ⟨x, hx⟩ : ∃ x, x = m.length := ⟨_, rfl⟩
  have HE := Lib.hid he
  have HX := Lib.hid hx
  rw [he, ← hx]
  rw [← hx] at h1
  clear hc hc' hm hn he hx
  go_enter Tryz.func80, Tryz.ntmps80
  go_wp2
  go_loopw [5] (fun i wr => ∃ k : Nat, k ≤ x ∧ i = .int .i64 ((k : Int) - 1) ∧ Hid (m.drop k = n.drop k) ∧ ∃ q, wr = w.drewN q) (fun i _ => (intOf i + 1).toNat)
  case atStart => exact ⟨x, Nat.le_refl _, rfl, by rw [List.drop_of_length_le (by rw [HX.out]; exact Nat.le_refl _), List.drop_of_length_le (by rw [HE.out, HX.out]; exact Nat.le_refl _)]; exact rfl, 0, rfl⟩
  case round =>
    obtain ⟨k, hk, rfl, hd, q, rfl⟩ := hrel
    rcases Nat.eq_zero_or_pos k with rfl | hpos
    · go_wp2
      go_ret
      exact ⟨ret_int (cmpV_eq HE.out.symm (by have := hd.out; simp at this; rw [this])).symm, q, rfl⟩
    · obtain ⟨j, rfl⟩ : ∃ j, k = j + 1 := ⟨k - 1, by omega⟩
      have hcell := HC.out j _ (gs_get m j (by have := HX.out; omega))
      have hcell' := HC'.out j _ (gs_get n j (by have := HX.out; have := HE.out; omega))
      have hjm : j < m.length := by have := HX.out; omega
      have hjn : j < n.length := by have := HX.out; have := HE.out; omega
      have t1 := Lib.hid (fun h => top_lt (j := j) HM.out.1 HE.out.symm hjm hd.out h)
      have t2 := Lib.hid (fun h => top_lt (j := j) HM.out.2 HE.out hjn hd.out.symm h)
      have t3 := Lib.hid (fun (h : m.getD j 0 = n.getD j 0) => show m.drop j = n.drop j by
        rw [List.drop_eq_getElem_cons hjm, List.drop_eq_getElem_cons hjn, hd.out]
        rw [List.getD_eq_getElem?_getD, List.getElem?_eq_getElem hjm, List.getD_eq_getElem?_getD, List.getElem?_eq_getElem hjn] at h
        rw [show m[j] = n[j] from h])
      generalize m.getD j 0 = g at *
      generalize n.getD j 0 = g' at *
      clear hd hjm hjn
      rcases Nat.lt_trichotomy g g' with hg | hg | hg
      · go_wp2
        go_quiet (fail)
        go_wp2
        go_ret
        exact ⟨ret_int (cmpV_lt HE.out.symm (t1.out hg)).symm, _, World.drewN_drewN _ _ _⟩
      · subst hg
        have t4 := Lib.hid (t3.out rfl)
        clear t1 t2 t3
        go_wp2
        go_quiet (fail)
        go_wp2
        go_quiet (fail)
        go_wp2
        go_roundw
        case rel => exact ⟨j, by omega, by simp, t4, _, by first | exact rfl | (simp only [World.drewN_drewN]; rfl)⟩
        case measure => simp [intOf]
      · have hg' : ¬ (g : Int) < g' := by omega
        go_wp2
        go_quiet (fail)
        go_wp2
        go_quiet (fail)
        go_wp2
        go_ret
        exact ⟨ret_int (cmpV_gt HE.out.symm (t2.out hg)).symm, _, by simp only [World.drewN_drewN]; rfl⟩

theorem compare_any (m n : List Nat) (a a' : Option Addr) (cap cap' : Nat) (w : World) (h1 : m.length ≤ 9223372036854775807) (h2 : n.length ≤ 9223372036854775807) (hm : ∀ g ∈ m, g < 1000000000) (hn : ∀ g ∈ n, g < 1000000000)
    (hr : Row w a (gs m)) (hr' : Row w a' (gs n)) :
    Calls Tryz.prog 80 #[.slice a m.length cap, .slice a' n.length cap'] w fun e w' => e = .returned (.int .i64 (cmpV m n)) ∧ ∃ q, w' = w.drewN q := by
  by_cases hne : m.length = n.length
  · by_cases hm0 : m = []
    · subst hm0
      obtain rfl : n = [] := List.eq_nil_of_length_eq_zero hne.symm
      exact (compare_zero a a' cap cap' w).mono fun e w' ⟨he, hw⟩ => ⟨by rw [he]; rfl, 0, hw.symm⟩
    · have hn0 : n ≠ [] := by rintro rfl; exact hm0 (List.eq_nil_of_length_eq_zero hne)
      obtain ⟨b, off, rfl, hlt, hc⟩ := hr.addr (gs_ne hm0)
      obtain ⟨b', off', rfl, hlt', hc'⟩ := hr'.addr (gs_ne hn0)
      exact compare_some m n b off b' off' cap cap' w h1 hne.symm hm hn hc hc'
  · exact (compare_len m n a a' cap cap' w h1 h2 hne).mono fun e w' ⟨he, hw⟩ => ⟨he, 0, hw.symm⟩
end Go.Proofs.YthlpfefckhdpiaaGreatDoor
