/- Deleted Cloned HistL -/
import Derived.Test.YtgopbldkhlmbnaaGreatDoorJHistP
import Derived.Test.YtgopbldkhlmbnaaGreatDoorJOpen
import Derived.Test.YtgopbldkhlmbnaaGreatDoorShelf3
import Derived.Test.YtgopbldkhlmbnaaGreatDoorJReads
import Derived.Lib.SliceRun
import Derived.Lib.LazyBuf
section
namespace Go.Proofs.YtgopbldkhlmbnaaGreatDoor
open Go Go.RowKit Num
theorem frozen_below {w w' : World} {b : Nat} (h : Below w.heap.size w w') (hb : b < w.heap.size) (o : Nat) : w'.frozen? ⟨b, o, none⟩ = w.frozen? ⟨b, o, none⟩ := by
  unfold World.frozen?
  rw [h.block b hb]
theorem foundV_len (n : Nat) : foundV n n = -1 := by unfold foundV; rw [if_neg (Nat.lt_irrefl n)]
theorem foundV_lt {p n : Nat} (h : p < n) : foundV p n = (p : Int) := by unfold foundV; rw [if_pos h]
set_option maxHeartbeats 2000000 in
theorem deleteFunc_any (zs : List Int) (b off c base : Nat) (bd : Int) (bb p : Nat) (T : TypeId) (w : World) (hbase : base ≤ b) (hbw : b < w.heap.size) (hn : zs.length ≤ 1000000) (hlc : zs.length ≤ c) (hc1000 : c ≤ 9223372036854775807)
    (hz : ∀ k z, zs[k]? = some z → w.cell? ⟨b, off + k, none⟩ = some (.int .i64 z)) (hfz : ∀ j, j < zs.length → w.frozen? ⟨b, off + j, none⟩ = false) (hB : Box w bb #[.int .i64 bd] T) (hp : p ≤ zs.length) (hc : ∀ i z, zs[i]? = some z → (i < p ↔ z < bd)) :
    Calls Tryz.prog 25 #[.slice (some ⟨b, off, none⟩) zs.length c, .func (.func 27) #[] #[.pointer (some ⟨bb, 0, none⟩)]] w fun e w' => e = .returned (.slice (some ⟨b, off, none⟩) p c) ∧ Below base w w' ∧ ∀ k z, k < p → zs[k]? = some z → w'.cell? ⟨b, off + k, none⟩ = some (.int .i64 z) := by
  have HI := Lib.hid (indexFunc_any zs (some ⟨b, off, none⟩) c bd bb p T w hn (.inr ⟨b, off, rfl, hbw, hz⟩) hB hp hc)
  have HZ := Lib.hid hz
  have HFZ := Lib.hid hfz
  have HC := Lib.hid hc
  have HF : Hid (∀ x W, Below w.heap.size w W → Calls Tryz.prog 27 #[.int .i64 x, .pointer (some ⟨bb, 0, none⟩)] W fun e w' => e = .returned (.bool (decide (bd ≤ x))) ∧ Below W.heap.size W w') := fun x W hb => atLeast_any x bd bb T W (hB.below hb)
  clear hz hc hB hfz
  by_cases hpl : p < zs.length
  · rw [foundV_lt hpl] at HI
    have hp1 : ((p : Int) == -1) = false := by simp
    go_enter Tryz.func25, Tryz.ntmps25
    go_wp2_with fail
    refine HI.out.mono ?_
    rintro e w1 ⟨rfl, hb⟩
    have HB1 := Lib.hid hb
    clear hb HI
    go_wp2_with fail
    go_loopw [5, 6] (fun jv iv wr => ∃ k : Nat, p < k ∧ k ≤ zs.length ∧ jv = .int .i64 p ∧ iv = .int .i64 k ∧ Hid (Below w.heap.size w wr)) (fun _ iv _ => zs.length - (intOf iv).toNat)
    case atStart => exact ⟨p + 1, by omega, by omega, rfl, by go_num, HB1⟩
    case round =>
      obtain ⟨k, hpk, hk, rfl, rfl, HB⟩ := hrel
      by_cases hlt : k < zs.length
      · obtain ⟨x, hx⟩ : ∃ x, zs[k]? = some x := ⟨_, List.getElem?_eq_getElem hlt⟩
        have hkx := HC.out k x hx
        have c1 := (HB.out.cell (p := ⟨b, off + k, none⟩) hbw).trans (HZ.out k x hx)
        have hxb : bd ≤ x := by have h := fun hh => (Nat.not_lt.2 (Nat.le_of_lt hpk)) (hkx.2 hh); omega
        clear hkx hx
        go_wp2_with fail
        refine (HF.out x _ HB.out).mono ?_
        rintro e w2 ⟨rfl, h1⟩
        have HB2 := Lib.hid (below_up HB.out h1)
        clear h1
        go_wp2
        go_roundw
        case rel => exact ⟨k + 1, by omega, by omega, rfl, by go_num, HB2⟩
        case measure => simp [intOf]; omega
      · obtain rfl : k = zs.length := by omega
        have hcl : ∀ ty, (Builtin.clear_ #[46] ty #[.slice (some ⟨b, off + p, none⟩) (zs.length - p) (c - p)]).run Tryz.prog wr = .ok (.tuple #[]) (wr.setCells b (off + p) (List.replicate (zs.length - p) (.int .i64 0))) :=
          fun ty => Lib.run_clear_slice wr 46 3 ty (.int .i64 0) Tryz.underlying46 (fun _ => by kernel_rfl) rfl rfl b (off + p) _ _ (by omega)
            (fun j hj => by
              obtain ⟨x, hx⟩ : ∃ x, zs[p + j]? = some x := ⟨_, List.getElem?_eq_getElem (by omega)⟩
              rw [Nat.add_assoc, HB.out.cell (p := ⟨b, off + (p + j), none⟩) hbw, HZ.out (p + j) x hx]; rfl)
            (fun j hj => by rw [frozen_below HB.out hbw, Nat.add_assoc]; exact HFZ.out (p + j) (by omega))
        have HE : Hid (Below base w (wr.setCells b (off + p) (List.replicate (zs.length - p) (.int .i64 0))) ∧ ∀ k z, k < p → zs[k]? = some z → (wr.setCells b (off + p) (List.replicate (zs.length - p) (.int .i64 0))).cell? ⟨b, off + k, none⟩ = some (.int .i64 z)) :=
          ⟨below_setCells hbase _ _ _ (HB.out.mono (by omega)), fun k z hk hz => by
            rw [World.cell?_setCells_out b _ _ _ _ (fun _ _ => .inl (by show off + k < off + p; omega)), HB.out.cell (p := ⟨b, off + k, none⟩) hbw]
            exact HZ.out k z hz⟩
        have hpc : p ≤ c := by omega
        have hcp : ¬ c = p := by omega
        go_wp2
        go_ret
        exact ⟨rfl, HE.out⟩
  · obtain rfl : p = zs.length := by omega
    rw [foundV_len] at HI
    go_enter Tryz.func25, Tryz.ntmps25
    go_wp2_with fail
    refine HI.out.mono ?_
    rintro e w1 ⟨rfl, hb⟩
    have HB1 := Lib.hid hb
    clear hb HI
    go_wp2
    go_ret
    exact ⟨rfl, HB1.out.mono (by omega), fun k z _ hz => (HB1.out.cell (p := ⟨b, off + k, none⟩) hbw).trans (HZ.out k z hz)⟩
end Go.Proofs.YtgopbldkhlmbnaaGreatDoor
end
section
namespace Go.Proofs.YtgopbldkhlmbnaaGreatDoor
open Go Go.RowKit Num
theorem containsInt_any (zs : List Int) (a : Option Addr) (c : Nat) (x : Int) (w : World) (hn : zs.length ≤ 1000000) (hz : Ints w a zs) :
    Calls Tryz.prog 24 #[.slice a zs.length c, .int .i64 x] w fun e w' => e = .returned (.bool (zs.contains x)) ∧ w' = w := by
  rcases hz with rfl | ⟨b, off, rfl, _, hc⟩
  · exact Tryz.slices_Contains_int_empty a c x w
  · have h := Tryz.slices_Contains_int b off zs.length c zs x w (Nat.le_refl _) (by omega) (fun j hj => by
      rw [hc j zs[j] (List.getElem?_eq_getElem hj)]
      simp [List.getD_eq_getElem?_getD, List.getElem?_eq_getElem hj])
    rw [List.take_of_length_le (Nat.le_refl _)] at h
    exact h
theorem cloneInt_any (zs : List Int) (a : Option Addr) (c : Nat) (w : World) (hn : zs.length ≤ 1000000) (hz : Ints w a zs) :
    Calls Tryz.prog 26 #[.slice a zs.length c] w fun e w' => ∃ v, e = .returned v ∧ w'.ownsRow w.heap.size 3 1 v zs.length (zs.map (Value.int .i64)) ∧ Below w.heap.size w w' := by
  rcases hz with rfl | ⟨b, off, rfl, _, hc⟩
  · cases a with
    | none =>
      refine (Tryz.slices_Clone_int_nil 0 c w).mono ?_
      rintro e w' ⟨rfl, rfl⟩
      exact ⟨_, rfl, ⟨rfl, .inl ⟨rfl, rfl⟩⟩, Below.refl _ _⟩
    | some a =>
      refine (Tryz.slices_Clone_int_zero a c w).mono ?_
      rintro e w' ⟨v, rfl, h, _, hb⟩
      exact ⟨v, rfl, h, hb⟩
  · have h := Tryz.slices_Clone_int b off zs.length c zs w (Nat.le_refl _) (by omega) (fun j hj => by
      rw [hc j zs[j] (List.getElem?_eq_getElem hj)]
      simp [List.getD_eq_getElem?_getD, List.getElem?_eq_getElem hj])
    rw [List.take_of_length_le (Nat.le_refl _)] at h
    refine h.mono ?_
    rintro e w' ⟨v, rfl, h, _, hb⟩
    exact ⟨v, rfl, h, hb⟩
theorem owned_ints {w : World} {base : Nat} {v : Value} {zs : List Int} (h : w.ownsRow base 3 1 v zs.length (zs.map (Value.int .i64))) :
    (v = .slice none 0 0 ∧ zs = []) ∨ ∃ b c, v = .slice (some ⟨b, 0, none⟩) zs.length c ∧ base ≤ b ∧ b < w.heap.size ∧ zs.length ≤ c ∧ c ≤ maxLen ∧ (∀ k z, zs[k]? = some z → w.cell? ⟨b, 0 + k, none⟩ = some (.int .i64 z)) ∧ ∀ j, w.frozen? ⟨b, 0 + j, none⟩ = false := by
  obtain ⟨_, ⟨rfl, h0⟩ | ⟨g, cap, cur, rfl, hg, hh, hn, hm, hs, ht⟩⟩ := h
  · exact .inl ⟨rfl, List.length_eq_zero_iff.1 h0⟩
  · refine .inr ⟨g, cap, rfl, hg, (Array.getElem?_eq_some_iff.1 hh).1, hn, hm, fun k z hz => ?_, fun j => ?_⟩
    · have h1 : (zs.map (Value.int .i64))[k]? = some (.int .i64 z) := by rw [List.getElem?_map, hz]; rfl
      rw [← ht] at h1
      have hk : k < zs.length := (List.getElem?_eq_some_iff.1 hz).1
      rw [List.getElem?_take_of_lt (by omega)] at h1
      unfold World.cell?
      rw [hh, Nat.zero_add]
      simpa using h1
    · unfold World.frozen?
      rw [hh]
      simp
end Go.Proofs.YtgopbldkhlmbnaaGreatDoor
end
section
namespace Go.Proofs.YtgopbldkhlmbnaaGreatDoor
open Go Go.RowKit Num
def iz (l : List Nat) : List Int := l.map fun (n : Nat) => (n : Int)
theorem iz_len (l : List Nat) : (iz l).length = l.length := by unfold iz; rw [List.length_map]
theorem iz_get {l : List Nat} {j n : Nat} (h : l[j]? = some n) : (iz l)[j]? = some (n : Int) := by unfold iz; rw [List.getElem?_map, h]; rfl
theorem iz_of {l : List Nat} {j : Nat} {z : Int} (h : (iz l)[j]? = some z) : ∃ n : Nat, l[j]? = some n ∧ z = (n : Int) := by
  unfold iz at h
  rw [List.getElem?_map] at h
  obtain ⟨n, hn, e⟩ := Option.map_eq_some_iff.1 h
  exact ⟨n, hn, e.symm⟩
theorem iz_take (l : List Nat) (p : Nat) : (iz l).take p = iz (l.take p) := by unfold iz; rw [List.map_take]
theorem natV_iz (l : List Nat) : l.map natV = (iz l).map (Value.int .i64) := by unfold iz; rw [List.map_map]; rfl
theorem fwd_sorted (fs : List FactP) (key : List UInt8) (n : Nat) : (iz (fwd fs key n 0)).Pairwise (· ≤ ·) := by
  unfold iz
  rw [List.pairwise_map]
  exact (fwd_asc fs key n).imp fun {a b} h => by omega
theorem fwd_contains {xs : List FactV} {key : List UInt8} {i : Nat} {x : FactV} (h : xs[i]? = some x) : (iz (fwd (xs.map FactV.f) key xs.length 0)).contains (i : Int) = (x.f.key == key) := by
  have hi := (List.getElem?_eq_some_iff.1 h).1
  have hk : keyAt (xs.map FactV.f) key i = (x.f.key == key) := by unfold keyAt; rw [List.getElem?_map, h]; rfl
  have hm : (i : Int) ∈ iz (fwd (xs.map FactV.f) key xs.length 0) ↔ (x.f.key == key) = true := by
    rw [← hk]
    unfold iz
    rw [List.mem_map]
    constructor
    · rintro ⟨j, hj, e⟩
      obtain rfl : j = i := by omega
      exact (fwd_mem.1 hj).2
    · exact fun h => ⟨i, fwd_mem.2 ⟨hi, h⟩, rfl⟩
  cases hb : (x.f.key == key) with
  | true => rw [List.contains_iff_mem]; exact hm.2 hb
  | false =>
    rw [Bool.eq_false_iff]
    intro hc
    rw [List.contains_iff_mem] at hc
    rw [hm.1 hc] at hb
    cases hb
theorem iz_cut {fs : List FactP} {key : List UInt8} {n k : Nat} (h : k ≤ n) : ∀ (i : Nat) (z : Int), (iz (fwd fs key n 0))[i]? = some z → (i < (fwd fs key k 0).length ↔ z < (k : Int)) := by
  intro i z hz
  obtain ⟨m, hm, rfl⟩ := iz_of hz
  rw [fwd_cut h i m hm]
  omega
theorem fwd_len_le {fs : List FactP} {key : List UInt8} {n k : Nat} (h : k ≤ n) : (fwd fs key k 0).length ≤ (fwd fs key n 0).length := by
  obtain ⟨r, e, _⟩ := fwd_below (fs := fs) (key := key) h
  rw [e, List.length_append]
  omega
theorem latest_cases {xs : List FactV} {key : List UInt8} {k : Nat} : ((fwd (xs.map FactV.f) key k 0) = [] ∧ latestV ((xs.take k).map FactV.f) key k = .tuple #[.int .i64 0, .bool false, .int .i64 0]) ∨
    ∃ m z : Nat, (fwd (xs.map FactV.f) key k 0).length = m + 1 ∧ (fwd (xs.map FactV.f) key k 0)[m]? = some z ∧ latestV ((xs.take k).map FactV.f) key k = .tuple #[.int .i64 (z : Int), .bool true, .int .i64 0] := by
  unfold latestV
  rw [List.map_take, bwd_take (Nat.le_refl k), bwd_rev]
  rcases List.eq_nil_or_concat (fwd (xs.map FactV.f) key k 0) with h | ⟨l, z, h⟩
  · exact .inl ⟨h, by rw [h]; rfl⟩
  · rw [List.concat_eq_append] at h
    exact .inr ⟨l.length, z, by rw [h]; simp, by rw [h]; simp, by rw [h, List.reverse_append]; rfl⟩
theorem replaced_cases {xs : List FactV} {key : List UInt8} {k j i : Nat} (hk : k ≤ xs.length) (hj : (fwd (xs.map FactV.f) key k 0)[j]? = some i) : ∃ x, xs[i]? = some x ∧ i < k ∧
    ((j + 1 = (fwd (xs.map FactV.f) key k 0).length ∧ replacedV i (fwd ((behind xs k i).map FactV.f) x.f.key (behind xs k i).length 0) = .tuple #[.int .i64 0, .bool false, .int .i64 0]) ∨
     ∃ z : Nat, j + 1 < (fwd (xs.map FactV.f) key k 0).length ∧ (fwd (xs.map FactV.f) key k 0)[j + 1]? = some z ∧ replacedV i (fwd ((behind xs k i).map FactV.f) x.f.key (behind xs k i).length 0) = .tuple #[.int .i64 (z : Int), .bool true, .int .i64 0]) := by
  obtain ⟨hik, hka⟩ := fwd_mem.1 (List.mem_of_getElem? hj)
  have hjl := (List.getElem?_eq_some_iff.1 hj).1
  obtain ⟨x, hx⟩ : ∃ x, xs[i]? = some x := ⟨_, List.getElem?_eq_getElem (by omega)⟩
  have hkey : x.f.key = key := by
    unfold keyAt at hka
    rw [List.getElem?_map, hx] at hka
    simpa using hka
  refine ⟨x, hx, hik, ?_⟩
  have hb := fwd_behind hj
  have e1 : (behind xs k i).map FactV.f = ((xs.map FactV.f).take k).drop (i + 1) := by unfold behind; rw [List.map_drop, List.map_take]
  have e2 : (behind xs k i).length = k - (i + 1) := by unfold behind; rw [List.length_drop, List.length_take]; omega
  rw [e1, e2, hkey]
  generalize fwd (((xs.map FactV.f).take k).drop (i + 1)) key (k - (i + 1)) 0 = r at *
  rcases Nat.lt_or_ge (j + 1) (fwd (xs.map FactV.f) key k 0).length with h | h
  · right
    cases r with
    | nil =>
      have := congrArg List.length hb
      simp at this
      omega
    | cons y r =>
      have h1 := congrArg (fun l => l[0]?) hb
      simp only [List.map_cons, List.getElem?_cons_zero, List.getElem?_drop, Nat.add_zero] at h1
      refine ⟨i + 1 + y, h, h1.symm, ?_⟩
      unfold replacedV
      simp
  · left
    have hnil : (fwd (xs.map FactV.f) key k 0).drop (j + 1) = [] := List.drop_eq_nil_of_le h
    rw [hnil, List.map_eq_nil_iff] at hb
    exact ⟨by omega, by rw [hb]; rfl⟩
theorem owned_zs {w : World} {base : Nat} {v : Value} {zs : List Int} (h : w.ownsRow base 3 1 v zs.length (zs.map (Value.int .i64))) : ∃ a c, v = .slice a zs.length c ∧ Ints w a zs := by
  rcases owned_ints h with ⟨rfl, h0⟩ | ⟨b, c, rfl, _, hb, _, _, hc, _⟩
  · exact ⟨none, 0, by rw [h0]; rfl, .inl h0⟩
  · exact ⟨_, _, rfl, .inr ⟨b, 0, rfl, hb, hc⟩⟩
set_option maxHeartbeats 1000000 in
theorem deleteNil_any (bd : Int) (bb : Nat) (T : TypeId) (w : World) (hB : Box w bb #[.int .i64 bd] T) :
    Calls Tryz.prog 25 #[.slice none 0 0, .func (.func 27) #[] #[.pointer (some ⟨bb, 0, none⟩)]] w fun e w' => e = .returned (.slice none 0 0) ∧ Below w.heap.size w w' := by
  have HI := Lib.hid (indexFunc_any [] none 0 bd bb 0 T w (by simp) (.inl rfl) hB (Nat.le_refl _) (fun i z h => by simp at h))
  clear hB
  go_enter Tryz.func25, Tryz.ntmps25
  go_wp2_with fail
  refine HI.out.mono ?_
  rintro e w1 ⟨rfl, hb⟩
  have HB1 := Lib.hid hb
  clear hb HI
  have HV : foundV 0 ([] : List Int).length = -1 := rfl
  rw [HV]
  clear HV
  go_wp2
  go_ret
  exact ⟨rfl, HB1.out⟩
theorem deleted_any (zs : List Int) (v : Value) (base : Nat) (bd : Int) (bb p : Nat) (T : TypeId) (w : World) (hn : zs.length ≤ 1000000) (hbs : base ≤ w.heap.size) (ho : w.ownsRow base 3 1 v zs.length (zs.map (Value.int .i64))) (hB : Box w bb #[.int .i64 bd] T) (hp : p ≤ zs.length) (hc : ∀ i z, zs[i]? = some z → (i < p ↔ z < bd)) :
    Calls Tryz.prog 25 #[v, .func (.func 27) #[] #[.pointer (some ⟨bb, 0, none⟩)]] w fun e w' => (∃ a c, e = .returned (.slice a p c) ∧ Ints w' a (zs.take p)) ∧ Below base w w' := by
  rcases owned_ints ho with ⟨rfl, h0⟩ | ⟨b, c, rfl, hb, hlt, hlc, hcm, hcells, hfz⟩
  · subst h0
    obtain rfl : p = 0 := by simpa using hp
    refine (deleteNil_any bd bb T w hB).mono ?_
    rintro e w' ⟨rfl, hb⟩
    exact ⟨⟨none, 0, rfl, .inl rfl⟩, hb.mono hbs⟩
  · refine (deleteFunc_any zs b 0 c base bd bb p T w hb hlt hn hlc (by unfold maxLen at hcm; omega) hcells (fun j _ => hfz j) hB hp hc).mono ?_
    rintro e w' ⟨rfl, hb', hk⟩
    refine ⟨⟨_, _, rfl, .inr ⟨b, 0, rfl, Nat.lt_of_lt_of_le hlt hb'.size, fun j z hz => ?_⟩⟩, hb'⟩
    rw [List.getElem?_take] at hz
    split at hz
    · rename_i h; exact hk j z h hz
    · cases hz
end Go.Proofs.YtgopbldkhlmbnaaGreatDoor
end
