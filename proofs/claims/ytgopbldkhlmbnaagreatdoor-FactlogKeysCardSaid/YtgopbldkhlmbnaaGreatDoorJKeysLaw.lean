/- KeysLaw -/
import Derived.Test.YtgopbldkhlmbnaaGreatDoorJLaterLaw
import Derived.Test.YtgopbldkhlmbnaaGreatDoorJHistP
namespace Go.Proofs.YtgopbldkhlmbnaaGreatDoor
open Go Go.RowKit Num
theorem latest_is (fs : List FactP) (key : List UInt8) (k : Nat) (hk : k ≤ fs.length) : ∃ (i : Int), latestV (fs.take k) key k = .tuple #[.int .i64 i, .bool ((keysV (fs.take k)).contains key), .int .i64 0] := by
  have h := bwd_some (fs := fs) (key := key) hk
  unfold latestV
  cases hb : bwd (fs.take k) key k with
  | nil =>
    have hc : (keysV (fs.take k)).contains key = false := by
      rw [Bool.eq_false_iff]
      intro hc
      rw [List.contains_iff_mem] at hc
      exact h.2 hc hb
    exact ⟨0, by rw [hc]⟩
  | cons x l =>
    have hc : (keysV (fs.take k)).contains key = true := by
      rw [List.contains_iff_mem]
      exact h.1 (by rw [hb]; simp)
    exact ⟨(x : Int), by rw [hc]⟩
set_option maxHeartbeats 16000000 in
set_option maxRecDepth 100000 in
theorem factlogKeysLaw_nat (xs : List FactV) (kn : Nat) (a : Option Addr) (c : Nat) (w : World) (hE : Env w) (hn : xs.length ≤ 9223372036854775807) (hcap : xs.length ≤ c) (hr : Facts w a xs) (hf : ∀ x, x ∈ xs → x.fits) (hkn : kn < 256) :
    Calls Tryz.prog 9 #[.slice a xs.length c, .int .u8 (kn : Int)] w fun e w' => e = .returned (.bool true) ∧ Below w.heap.size w w' := by
  have HG := Lib.hid (greatLog_any xs a c w hn hr hf)
  have HAW : Hid (∀ W, Below w.heap.size w W → Calls Tryz.prog 12 #[] W fun e w' => e = .returned (.bool true) ∧ Below W.heap.size W w') := fun W hb => awake14_any W (hE.below hb)
  have HE := Lib.hid hE
  have HR := Lib.hid hr
  have HF := Lib.hid hf
  clear hE hr hf
  go_enter Tryz.func9, Tryz.ntmps9
  go_wp2_with fail
  refine HG.out.mono ?_
  rintro e w1 ⟨⟨g, rfl, hg⟩, hb⟩
  have HB1 := Lib.hid hb
  have HGS := Lib.hid hg
  clear hb hg HG
  cases g with
  | true =>
    go_wp2_with fail
    refine (HAW.out _ HB1.out).mono ?_
    rintro e w2 ⟨rfl, hb⟩
    go_wp2
    go_ret
    exact ⟨rfl, below_up HB1.out hb⟩
  | false =>
    have HSM := Lib.hid (HGS.out rfl)
    clear HGS
    by_cases hlen : 12 < xs.length
    · go_wp2_with fail
      refine (HAW.out _ HB1.out).mono ?_
      rintro e w2 ⟨rfl, hb⟩
      go_wp2
      go_ret
      exact ⟨rfl, below_up HB1.out hb⟩
    · have HL : Hid (LogAt w a c xs) := ⟨HR.out, fun x hx => ⟨HSM.out x hx, (HF.out x hx).picks⟩, by omega, hcap⟩
      have HCK := Lib.hid (logCheck_any xs a c w1 (HE.out.below HB1.out) (by omega) (HL.out.below HB1.out).facts (HL.out.below HB1.out).ok)
      clear HR HF HSM
      go_wp2_with fail
      refine HCK.out.mono ?_
      rintro e w2 ⟨rfl, hb⟩
      have HB2 := Lib.hid (below_up HB1.out hb)
      clear hb HCK
      by_cases h0 : lcheck (xs.map FactV.f) = 0
      · obtain ⟨k, hk⟩ : ∃ k, k = kn % (xs.length + 1) := ⟨_, rfl⟩
        have hkle : k ≤ xs.length := by have := Nat.mod_lt kn (show 0 < xs.length + 1 by omega); omega
        obtain ⟨ks, hks⟩ : ∃ ks, ks = keysV ((xs.take k).map FactV.f) := ⟨_, rfl⟩
        have HKL : Hid (ks.length ≤ 12) := by have h := keys_len_le ((xs.take k).map FactV.f); rw [← hks, List.length_map, List.length_take] at h; show _ ≤ _; omega
        have HK1 : Hid (∀ W, Below w.heap.size w W → Calls Tryz.prog 32 #[.slice a xs.length c, .int .i64 (k : Int)] W fun e w' => ∃ v, e = .returned (.tuple #[v, .int .i64 0]) ∧ w'.ownsRow W.heap.size 9 1 v ks.length (strsV ks) ∧ Below W.heap.size W w') := fun W hb => by
          have h := keys_any xs a c k hkle W (HE.out.below hb) (HL.out.below hb) h0
          rw [← hks] at h; exact h
        have HLA : Hid (∀ key W, Below w.heap.size w W → Calls Tryz.prog 28 #[.slice a xs.length c, .int .i64 (k : Int), .string ⟨key.toArray⟩] W fun e w' => (∃ i : Int, e = .returned (.tuple #[.int .i64 i, .bool (ks.contains key), .int .i64 0])) ∧ Below W.heap.size W w') := fun key W hb => by
          have h := latest_any xs a c key k hkle W (HE.out.below hb) (HL.out.below hb) h0
          obtain ⟨i, hi⟩ := latest_is (xs.map FactV.f) key k (by rw [List.length_map]; exact hkle)
          rw [List.map_take, hi, ← List.map_take, ← hks] at h
          exact h.mono fun e w' ⟨e1, e2⟩ => ⟨⟨i, e1⟩, e2⟩
        have HASC : Hid (ks.Pairwise (· ≤ ·)) := by rw [hks]; exact keys_le_asc _
        have HCMP : Hid (Go.Lib.compact ks = ks) := by show _ = _; rw [hks]; exact keys_compact _
        have HMORE : Hid (k < xs.length → ∃ ms x, xs[k]? = some x ∧ ks.length ≤ ms.length ∧ ms.length ≤ ks.length + 1 ∧ ms.contains x.f.key = true ∧ (∀ W, Below w.heap.size w W → Calls Tryz.prog 32 #[.slice a xs.length c, .int .i64 ((k : Int) + 1)] W fun e w' => ∃ v, e = .returned (.tuple #[v, .int .i64 0]) ∧ w'.ownsRow W.heap.size 9 1 v ms.length (strsV ms) ∧ Below W.heap.size W w')) := fun hlt => by
          obtain ⟨x, hx⟩ : ∃ x, xs[k]? = some x := ⟨_, List.getElem?_eq_getElem hlt⟩
          obtain ⟨g1, g2, g3⟩ := keys_grow (fs := xs.map FactV.f) (k := k) (f := x.f) (by rw [List.getElem?_map, hx]; rfl)
          rw [← List.map_take, ← List.map_take] at g1 g2
          rw [← List.map_take] at g3
          rw [← hks] at g1 g2
          refine ⟨keysV ((xs.take (k + 1)).map FactV.f), x, hx, g1, g2, by rw [List.contains_iff_mem]; exact g3, fun W hb => ?_⟩
          have h := keys_any xs a c (k + 1) hlt W (HE.out.below hb) (HL.out.below hb) h0
          rw [Int.natCast_add] at h
          exact h
        rw [h0]
        have hz1 : ¬ (xs.length : Int) + 1 = 0 := by omega
        have hkm : (kn : Int) % ((xs.length : Int) + 1) = (k : Int) := by rw [hk]; exact (Int.natCast_emod kn (xs.length + 1)).symm
        have hkt : (kn : Int).tmod ((xs.length : Int) + 1) = (k : Int) := by rw [Int.tmod_eq_emod_of_nonneg (by omega)]; exact hkm
        have HZ1 := Lib.hid hz1
        have HKT := Lib.hid hkt
        clear h0 hks hk hz1 hkm hkt
        go_wp2_with (refine wpList_rem _ rfl (some 38) rfl _ _ _ _ rfl .i64 _ _ _ rfl rfl HZ1.out HKT.out ?_; simp only [Act.put, List.setIfInBounds_toArray, List.set_cons_zero, List.set_cons_succ])
        refine (HK1.out _ HB2.out).mono ?_
        rintro e w3 ⟨v3, rfl, ho, hb⟩
        obtain ⟨a3, c3, rfl, hr3, hl3, hm3⟩ := owned_row ho
        have HB3 := Lib.hid (below_up HB2.out hb)
        have HR3 := Lib.hid hr3
        have HIS := Lib.hid (isSorted_str ks a3 c3 w3 (by have := HKL.out; omega) hr3 HASC.out)
        clear hb HK1 HB1 HB2 ho hr3 hl3 hm3 HASC
        go_wp2_with fail
        refine HIS.out.mono ?_
        rintro e w4 ⟨rfl, hb⟩
        have HB4 := Lib.hid (below_up HB3.out hb)
        have HR4 := Lib.hid (HR3.out.below hb)
        have HCL := Lib.hid (cloneStr_any ks a3 c3 w4 (by have := HKL.out; omega) HR4.out)
        clear hb HIS HB3 HR3
        go_wp2_with fail
        refine HCL.out.mono ?_
        rintro e w5 ⟨v5, rfl, ho5, hb⟩
        have HCO := Lib.hid (compacted_any ks v5 w4.heap.size w5 (by have := HKL.out; omega) ho5)
        have HO5 := Lib.hid ho5
        have HB5 := Lib.hid hb
        clear hb HCL ho5
        go_wp2_with fail
        refine HCO.out.mono ?_
        rintro e w6 ⟨v6, rfl, ho6, hg6⟩
        obtain ⟨a6, c6, rfl, _, _, _⟩ := owned_row ho6
        rw [HCMP.out]
        have hb6 := grown_below HO5.out hg6 HB5.out HB5.out.size
        have HR6 := Lib.hid (HR4.out.below hb6)
        have HB6 := Lib.hid (below_up HB4.out hb6)
        clear HCO HO5 HB5 ho6 hg6 hb6 HR4 HB4 HCMP
        go_wp2_with fail
        go_loopw [63] (fun iv wr => ∃ j : Nat, j ≤ xs.length ∧ iv = .int .i64 j ∧ Hid (Below w6.heap.size w6 wr)) (fun iv _ => xs.length - (intOf iv).toNat)
        case atStart => exact ⟨0, Nat.zero_le _, rfl, Below.refl _ _⟩
        case round =>
          obtain ⟨j, hj, rfl, HB⟩ := hrel
          by_cases hlt : j < xs.length
          · obtain ⟨x, hx⟩ : ∃ x, xs[j]? = some x := ⟨xs[j], List.getElem?_eq_getElem hlt⟩
            obtain ⟨b, off, rfl, hbl, hcx⟩ := HL.out.facts.1.addr (k := j) (cs := x.cells) (by rw [List.getElem?_map, hx]; rfl)
            have HBW := Lib.hid (below_up HB6.out HB.out)
            have HC : Hid (∀ i v, x.arr.toList[i]? = some v → wr.cell? ⟨b, off + j * 21 + i, none⟩ = some v) := fun i v hv => (HBW.out.cell (p := ⟨b, off + j * 21 + i, none⟩) hbl).trans (hcx i v hv)
            have HSZ : Hid ((Tryz.prog.info? 36).map (·.size) = some x.arr.size) := factSize x.f x.pa x.oa x.pc x.oc
            have HONE := Lib.hid (cells_one x)
            have HST : Hid (x.arr[0]? = some (.string ⟨x.f.key.toArray⟩)) := rfl
            have hsz21 : x.arr.size = 21 := rfl
            clear hcx hx
            generalize x.arr = fc at *
            generalize x.f.key = kx at *
            have c1 : ((wr.alloc (.cells Z21 36)).setRow wr.heap.size fc).cell? ⟨wr.heap.size, 0, none⟩ = some (.string ⟨kx.toArray⟩) :=
              ((show Box ((wr.alloc (.cells Z21 36)).setRow wr.heap.size fc) wr.heap.size fc 36 from ⟨by simp [World.setRow], setRow_heap _ _ _ _ _ _ (heap_alloc_new wr (.cells Z21 36))⟩).cell 0).trans HST.out
            have hlt2 : wr.heap.size < ((wr.alloc (.cells Z21 36)).setRow wr.heap.size fc).heap.size := by simp [World.setRow]
            have HB2 := Lib.hid (below_up HB.out (below_setRow (below_alloc wr (.cells Z21 36)) (Nat.le_refl _) fc))
            have HB2W := Lib.hid (below_up HB6.out HB2.out)
            have HS21 : Hid (Z21.size = fc.size) := hsz21.symm
            have HNEW := Lib.hid (heap_alloc_new wr (.cells Z21 36))
            have HLT2 := Lib.hid hlt2
            have HC1 := Lib.hid c1
            clear hsz21 HST hlt2
            unfold Z21 at c1
            go_wp2_with (first | (refine wpList_load_at rfl 36 _ rfl b (off + j * 21) rfl fc _ HC.out Tryz.underlying36 rfl HSZ.out ?_) | (refine wpList_store_row rfl 36 _ _ rfl wr.heap.size fc rfl rfl 36 Z21 HNEW.out HSZ.out HS21.out HONE.out ?_))
            refine (HLA.out kx _ HB2W.out).mono ?_
            rintro e w7 ⟨⟨li, rfl⟩, hb7⟩
            have c2 : w7.cell? ⟨wr.heap.size, 0, none⟩ = some (.string ⟨kx.toArray⟩) := (hb7.cell (p := ⟨wr.heap.size, 0, none⟩) HLT2.out).trans HC1.out
            have HB7 := Lib.hid (below_up HB2.out hb7)
            have HCO := Lib.hid (containsStr_any ks a3 c3 kx w7 (by have := HKL.out; omega) (HR6.out.below HB7.out))
            clear c1 HC1 hb7 HB2W HB2 HC HNEW HLT2
            generalize ks.contains kx = kb at *
            go_wp2_with fail
            refine HCO.out.mono ?_
            rintro e w8 ⟨rfl, rfl⟩
            clear HCO c2
            go_wp2_with fail
            go_roundw
            case rel => exact ⟨j + 1, by omega, by go_num, HB7⟩
            case measure => simp [intOf]; omega
          · obtain rfl : j = xs.length := by omega
            have HB7 := Lib.hid (below_up HB6.out HB.out)
            have HR7 := Lib.hid (HR6.out.below HB.out)
            clear HR6 HB6 hj hlt HB
            obtain ⟨wo, hwo⟩ : ∃ wo, wo = wr := ⟨_, rfl⟩
            subst hwo
            go_wp2_with fail
            go_loopw [89] (fun iv W => ∃ j : Nat, j ≤ ks.length ∧ iv = .int .i64 j ∧ Hid (Below wo.heap.size wo W)) (fun iv _ => ks.length - (intOf iv).toNat)
            case atStart => exact ⟨0, Nat.zero_le _, rfl, Below.refl _ _⟩
            case round =>
              obtain ⟨j, hj, rfl, HB⟩ := hrel
              have hk12 := HKL.out
              have HBW := Lib.hid (below_up HB7.out HB.out)
              by_cases hlt : j < ks.length
              · obtain ⟨s, hs⟩ : ∃ s, ks[j]? = some s := ⟨_, List.getElem?_eq_getElem hlt⟩
                have hct : ks.contains s = true := by rw [List.contains_iff_mem]; exact List.mem_of_getElem? hs
                obtain ⟨b, off, rfl, hb, cc⟩ := HR7.out.addr (by intro h; unfold strsV at h; rw [List.map_eq_nil_iff] at h; rw [h] at hs; simp at hs)
                have c1 : wr.cell? ⟨b, off + j, none⟩ = some (.string ⟨s.toArray⟩) := (HB.out.cell (p := ⟨b, off + j, none⟩) hb).trans (cc j _ (by unfold strsV; rw [List.getElem?_map, hs]; rfl))
                have HLS : Hid (∀ W, Below w.heap.size w W → Calls Tryz.prog 28 #[.slice a xs.length c, .int .i64 (k : Int), .string ⟨s.toArray⟩] W fun e w' => (∃ i : Int, e = .returned (.tuple #[.int .i64 i, .bool true, .int .i64 0])) ∧ Below W.heap.size W w') := fun W hb => by
                  have h := HLA.out s W hb
                  rw [hct] at h
                  exact h
                clear cc hs hct
                go_wp2_with fail
                refine (HLS.out _ HBW.out).mono ?_
                rintro e w7 ⟨⟨li, rfl⟩, hb7⟩
                have HB8 := Lib.hid (below_up HB.out hb7)
                clear HLS c1 hb7
                go_wp2_with fail
                go_roundw
                case rel => exact ⟨j + 1, by omega, by go_num, HB8⟩
                case measure => simp [intOf]; omega
              · obtain rfl : j = ks.length := by omega
                clear HLA HB HR7 HB7
                by_cases hkx : k < xs.length
                · obtain ⟨ms, x, hx, m1, m2, m3, hmk⟩ := HMORE.out hkx
                  obtain ⟨b, off, rfl, hbl, hcx⟩ := HL.out.facts.1.addr (k := k) (cs := x.cells) (by rw [List.getElem?_map, hx]; rfl)
                  have HKX : Hid (∀ W, Below w.heap.size w W → W.cell? ⟨b, off + k * 21, none⟩ = some (.string ⟨x.f.key.toArray⟩)) := fun W hb => (hb.cell (p := ⟨b, off + k * 21, none⟩) hbl).trans (hcx 0 _ rfl)
                  have HMK := Lib.hid hmk
                  have HM3 := Lib.hid m3
                  have hml : ms.length ≤ 13 := by have := HKL.out; omega
                  clear hmk m3 HMORE hcx hx
                  generalize x.f.key = kx at *
                  go_wp2_with fail
                  refine (HMK.out _ HBW.out).mono ?_
                  rintro e w8 ⟨v8, rfl, ho8, hb8⟩
                  obtain ⟨a8, c8, rfl, hr8, _, _⟩ := owned_row ho8
                  have HB8 := Lib.hid (below_up HBW.out hb8)
                  have HCO := Lib.hid (containsStr_any ms a8 c8 kx w8 (by omega) hr8)
                  have c1 := HKX.out _ HB8.out
                  rw [HM3.out] at HCO
                  clear HMK HM3 ho8 hr8 hb8 HKX HBW
                  go_wp2_with fail
                  refine HCO.out.mono ?_
                  rintro e w9 ⟨rfl, rfl⟩
                  clear HCO c1
                  go_wp2_with fail
                  refine (HAW.out _ HB8.out).mono ?_
                  rintro e w8 ⟨rfl, hb⟩
                  go_wp2
                  go_ret
                  exact ⟨rfl, below_up HB8.out hb⟩
                · clear HMORE
                  go_wp2_with fail
                  refine (HAW.out _ HBW.out).mono ?_
                  rintro e w8 ⟨rfl, hb⟩
                  go_wp2
                  go_ret
                  exact ⟨rfl, below_up HBW.out hb⟩
      · have h0' : (lcheck (xs.map FactV.f) != 0) = true := by simpa using h0
        clear h0
        generalize lcheck (xs.map FactV.f) = le at *
        go_wp2_with fail
        refine (HAW.out _ HB2.out).mono ?_
        rintro e w3 ⟨rfl, hb⟩
        go_wp2
        go_ret
        exact ⟨rfl, below_up HB2.out hb⟩
theorem factlogKeysLaw_any (xs : List FactV) (x : Int) (a : Option Addr) (c : Nat) (w : World) (hE : Env w) (hn : xs.length ≤ 9223372036854775807) (hcap : xs.length ≤ c) (hr : Facts w a xs) (hf : ∀ x, x ∈ xs → x.fits) (h0 : 0 ≤ x) (h1 : x ≤ 255) :
    Calls Tryz.prog 9 #[.slice a xs.length c, .int .u8 x] w fun e w' => e = .returned (.bool true) ∧ Below w.heap.size w w' := by
  obtain ⟨kn, rfl⟩ := Int.eq_ofNat_of_zero_le h0
  exact factlogKeysLaw_nat xs kn a c w hE hn hcap hr hf (by omega)
end Go.Proofs.YtgopbldkhlmbnaaGreatDoor
