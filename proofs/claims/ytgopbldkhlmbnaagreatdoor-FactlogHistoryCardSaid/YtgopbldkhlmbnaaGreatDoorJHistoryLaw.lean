/- HistoryLaw -/
import Derived.Test.YtgopbldkhlmbnaaGreatDoorJAwake
import Derived.Test.YtgopbldkhlmbnaaGreatDoorJGreat2
import Derived.Test.YtgopbldkhlmbnaaGreatDoorJReads
import Derived.Test.YtgopbldkhlmbnaaGreatDoorJHist
import Derived.Test.YtgopbldkhlmbnaaGreatDoorJHistP
namespace Go.Proofs.YtgopbldkhlmbnaaGreatDoor
open Go Go.RowKit Num
set_option maxHeartbeats 8000000 in
set_option maxRecDepth 100000 in
theorem factlogHistoryLaw_nat (xs : List FactV) (kn : Nat) (key : List UInt8) (a : Option Addr) (c : Nat) (w : World) (hE : Env w) (hn : xs.length ≤ 9223372036854775807) (hcap : xs.length ≤ c) (hr : Facts w a xs) (hf : ∀ x, x ∈ xs → x.fits) (hkn : kn < 256) (hkey : key.length ≤ 9223372036854775807) :
    Calls Tryz.prog 6 #[.slice a xs.length c, .int .u8 (kn : Int), .string ⟨key.toArray⟩] w fun e w' => e = .returned (.bool true) ∧ Below w.heap.size w w' := by
  have HG := Lib.hid (greatLog_any xs a c w hn hr hf)
  have HAW : Hid (∀ W, Below w.heap.size w W → Calls Tryz.prog 12 #[] W fun e w' => e = .returned (.bool true) ∧ Below W.heap.size W w') := fun W hb => awake14_any W (hE.below hb)
  have HE := Lib.hid hE
  have HR := Lib.hid hr
  have HF := Lib.hid hf
  clear hE hr hf
  go_enter Tryz.func6, Tryz.ntmps6
  go_wp2_with fail
  refine HG.out.mono ?_
  rintro e w1 ⟨⟨g, rfl, hg⟩, hb⟩
  have HB1 := Lib.hid hb
  have HGS := Lib.hid hg
  clear hb hg HG
  cases g with
  | true =>
    go_wp2_with fail
    refine (HAW.out _ HB1.out).mono ?_
    rintro e w2 ⟨rfl, hb⟩
    go_wp2
    go_ret
    exact ⟨rfl, below_up HB1.out hb⟩
  | false =>
    have HSM := Lib.hid (HGS.out rfl)
    clear HGS
    by_cases hlen : 12 < xs.length
    · go_wp2_with fail
      refine (HAW.out _ HB1.out).mono ?_
      rintro e w2 ⟨rfl, hb⟩
      go_wp2
      go_ret
      exact ⟨rfl, below_up HB1.out hb⟩
    · by_cases hkl : 30 < key.length
      · go_wp2_with fail
        refine (HAW.out _ HB1.out).mono ?_
        rintro e w2 ⟨rfl, hb⟩
        go_wp2
        go_ret
        exact ⟨rfl, below_up HB1.out hb⟩
      · have HL : Hid (LogAt w a c xs) := ⟨HR.out, fun x hx => ⟨HSM.out x hx, (HF.out x hx).picks⟩, by omega, hcap⟩
        have HCK := Lib.hid (logCheck_any xs a c w1 (HE.out.below HB1.out) (by omega) (HL.out.below HB1.out).facts (HL.out.below HB1.out).ok)
        clear HR HF HSM
        go_wp2_with fail
        refine HCK.out.mono ?_
        rintro e w2 ⟨rfl, hb⟩
        have HB2 := Lib.hid (below_up HB1.out hb)
        clear hb HCK
        by_cases h0 : lcheck (xs.map FactV.f) = 0
        · have HHI : Hid (∀ W, Below w.heap.size w W → Calls Tryz.prog 22 #[.slice a xs.length c, .string ⟨key.toArray⟩] W fun e w' => ∃ v, e = .returned (.tuple #[v, .int .i64 0]) ∧ w'.ownsRow W.heap.size 3 1 v (fwd (xs.map FactV.f) key xs.length 0).length ((fwd (xs.map FactV.f) key xs.length 0).map natV) ∧ Below W.heap.size W w') := fun W hb => history_any xs a c key W (HE.out.below hb) (HL.out.below hb) h0
          have H0 := Lib.hid h0
          rw [h0]
          clear h0
          obtain ⟨k, hk⟩ : ∃ k, k = kn % (xs.length + 1) := ⟨_, rfl⟩
          have hkle : k ≤ xs.length := by have := Nat.mod_lt kn (show 0 < xs.length + 1 by omega); omega
          have hz1 : ¬ (xs.length : Int) + 1 = 0 := by omega
          have hkm : (kn : Int) % ((xs.length : Int) + 1) = (k : Int) := by rw [hk]; exact (Int.natCast_emod kn (xs.length + 1)).symm
          have hkt : (kn : Int).tmod ((xs.length : Int) + 1) = (k : Int) := by rw [Int.tmod_eq_emod_of_nonneg (by omega)]; exact hkm
          have HZ1 := Lib.hid hz1
          have HKT := Lib.hid hkt
          clear hz1 hkt hkm hk
          obtain ⟨zs, hzs⟩ : ∃ zs, zs = iz (fwd (xs.map FactV.f) key xs.length 0) := ⟨_, rfl⟩
          obtain ⟨q, hq⟩ : ∃ q, q = fwd (xs.map FactV.f) key k 0 := ⟨_, rfl⟩
          have HS : Hid (zs.Pairwise (· ≤ ·)) := by rw [hzs]; exact fwd_sorted (xs.map FactV.f) key xs.length
          have HCT : Hid (∀ (i : Nat) x, xs[i]? = some x → zs.contains (i : Int) = (x.f.key == key)) := fun i x h => by rw [hzs]; exact fwd_contains h
          have HCUT : Hid (∀ (i : Nat) (z : Int), zs[i]? = some z → (i < q.length ↔ z < (k : Int))) := by rw [hzs, hq]; exact iz_cut (fs := xs.map FactV.f) (key := key) hkle
          have HLEN : Hid (q.length ≤ zs.length) := by rw [hzs, hq, iz_len]; exact fwd_len_le (fs := xs.map FactV.f) (key := key) hkle
          have HTK : Hid (zs.take q.length = iz q) := by show _ = _; rw [hzs, hq, iz_take, fwd_take (fs := xs.map FactV.f) (key := key) hkle]
          have hzl : zs.length ≤ xs.length := by rw [hzs, iz_len, fwd_zero]; exact Nat.le_trans (List.length_filter_le _ _) (by simp)
          have HHI2 : Hid (∀ W, Below w.heap.size w W → Calls Tryz.prog 22 #[.slice a xs.length c, .string ⟨key.toArray⟩] W fun e w' => ∃ v, e = .returned (.tuple #[v, .int .i64 0]) ∧ w'.ownsRow W.heap.size 3 1 v zs.length (zs.map (Value.int .i64)) ∧ Below W.heap.size W w') := fun W hb => by
            have h := HHI.out W hb
            rw [natV_iz, ← iz_len, ← hzs] at h
            exact h
          have HLT : Hid ((q = [] ∧ (∀ W, Below w.heap.size w W → Calls Tryz.prog 28 #[.slice a xs.length c, .int .i64 (k : Int), .string ⟨key.toArray⟩] W fun e w' => e = .returned (.tuple #[.int .i64 0, .bool false, .int .i64 0]) ∧ Below W.heap.size W w')) ∨
              ∃ m z : Nat, q.length = m + 1 ∧ q[m]? = some z ∧ (∀ W, Below w.heap.size w W → Calls Tryz.prog 28 #[.slice a xs.length c, .int .i64 (k : Int), .string ⟨key.toArray⟩] W fun e w' => e = .returned (.tuple #[.int .i64 (z : Int), .bool true, .int .i64 0]) ∧ Below W.heap.size W w')) := by
            have hl := fun W (hb : Below w.heap.size w W) => latest_any xs a c key k hkle W (HE.out.below hb) (HL.out.below hb) H0.out
            show _ ∨ _
            rw [hq]
            rcases latest_cases (xs := xs) (key := key) (k := k) with ⟨e1, e2⟩ | ⟨m, z, e1, e3, e2⟩
            · rw [e2] at hl; exact .inl ⟨e1, hl⟩
            · rw [e2] at hl; exact .inr ⟨m, z, e1, e3, hl⟩
          have HRP : Hid (∀ (j i : Nat), q[j]? = some i → (j + 1 = q.length ∧ ∀ W, Below w.heap.size w W → Calls Tryz.prog 29 #[.slice a xs.length c, .int .i64 (k : Int), .int .i64 (i : Int)] W fun e w' => e = .returned (.tuple #[.int .i64 0, .bool false, .int .i64 0]) ∧ Below W.heap.size W w') ∨
              ∃ z : Nat, j + 1 < q.length ∧ q[j + 1]? = some z ∧ ∀ W, Below w.heap.size w W → Calls Tryz.prog 29 #[.slice a xs.length c, .int .i64 (k : Int), .int .i64 (i : Int)] W fun e w' => e = .returned (.tuple #[.int .i64 (z : Int), .bool true, .int .i64 0]) ∧ Below W.heap.size W w') := fun j i hji => by
            rw [hq] at hji ⊢
            obtain ⟨x, hx, hik, h⟩ := replaced_cases hkle hji
            have hr := fun W (hb : Below w.heap.size w W) => replaced_any xs a c k i x hkle hik hx W (HE.out.below hb) (HL.out.below hb) H0.out
            rcases h with ⟨e1, e2⟩ | ⟨z, e1, e3, e2⟩
            · rw [e2] at hr; exact .inl ⟨e1, hr⟩
            · rw [e2] at hr; exact .inr ⟨z, e1, e3, hr⟩
          clear hzs hq HHI H0
          go_wp2_with (refine wpList_rem _ rfl (some 44) rfl _ _ _ _ rfl .i64 _ _ _ rfl rfl HZ1.out HKT.out ?_; simp only [Act.put, List.setIfInBounds_toArray, List.set_cons_zero, List.set_cons_succ])
          have HB2a := Lib.hid (below_up HB2.out (below_alloc w2 (.cells #[.int .i64 (k : Int)] 3)))
          have HBX := Lib.hid (Box.new0 w2 #[.int .i64 (k : Int)] 3)
          refine (HHI2.out _ HB2a.out).mono ?_
          rintro e w3 ⟨hv, rfl, ho, hb⟩
          obtain ⟨ha, hc, rfl, hrow⟩ := owned_zs ho
          have HB3 := Lib.hid (below_up HB2a.out hb)
          have HBX3 := Lib.hid (HBX.out.below hb)
          have HIS := Lib.hid (isSorted_int zs ha hc w3 (by omega) hrow HS.out)
          have HRW3 := Lib.hid hrow
          clear hb HBX ho hrow HHI2 HB1 HB2 HB2a
          generalize w2.heap.size = bk at *
          go_wp2_with fail
          refine HIS.out.mono ?_
          rintro e w4 ⟨rfl, hb⟩
          have HB4 := Lib.hid (below_up HB3.out hb)
          have HBX4 := Lib.hid (HBX3.out.below hb)
          have HRW4 := Lib.hid (HRW3.out.below hb)
          clear hb HBX3 HRW3 HB3 HIS
          go_wp2_with fail
          go_loopw [60] (fun iv wr => ∃ j : Nat, j ≤ xs.length ∧ iv = .int .i64 j ∧ Hid (Below w4.heap.size w4 wr)) (fun iv _ => xs.length - (intOf iv).toNat)
          case atStart => exact ⟨0, Nat.zero_le _, rfl, Below.refl _ _⟩
          case round =>
            obtain ⟨j, hj, rfl, HB⟩ := hrel
            by_cases hlt : j < xs.length
            · obtain ⟨x, hx⟩ : ∃ x, xs[j]? = some x := ⟨xs[j], List.getElem?_eq_getElem hlt⟩
              obtain ⟨b, off, rfl, hbl, hcx⟩ := HL.out.facts.1.addr (k := j) (cs := x.cells) (by rw [List.getElem?_map, hx]; rfl)
              have HBW := Lib.hid (below_up HB4.out HB.out)
              have HC : Hid (∀ i v, x.arr.toList[i]? = some v → wr.cell? ⟨b, off + j * 21 + i, none⟩ = some v) := fun i v hv => (HBW.out.cell (p := ⟨b, off + j * 21 + i, none⟩) hbl).trans (hcx i v hv)
              have HSZ : Hid ((Tryz.prog.info? 36).map (·.size) = some x.arr.size) := factSize x.f x.pa x.oa x.pc x.oc
              have HONE := Lib.hid (cells_one x)
              have HST : Hid (x.arr[0]? = some (.string ⟨x.f.key.toArray⟩)) := rfl
              have hsz21 : x.arr.size = 21 := rfl
              have HCO : Hid (∀ W, Below w4.heap.size w4 W → Calls Tryz.prog 24 #[.slice ha zs.length hc, .int .i64 (j : Int)] W fun e w' => e = .returned (.bool (x.f.key == key)) ∧ w' = W) := fun W hb => by
                have h := containsInt_any zs ha hc (j : Int) W (by omega) (HRW4.out.below hb)
                rw [HCT.out j x hx] at h
                exact h
              clear hcx hx
              generalize x.arr = fc at *
              generalize x.f.key = kx at *
              have c1 : ((wr.alloc (.cells Z21 36)).setRow wr.heap.size fc).cell? ⟨wr.heap.size, 0, none⟩ = some (.string ⟨kx.toArray⟩) :=
                ((show Box ((wr.alloc (.cells Z21 36)).setRow wr.heap.size fc) wr.heap.size fc 36 from ⟨by simp [World.setRow], setRow_heap _ _ _ _ _ _ (heap_alloc_new wr (.cells Z21 36))⟩).cell 0).trans HST.out
              have HB2 := Lib.hid (below_up HB.out (below_setRow (below_alloc wr (.cells Z21 36)) (Nat.le_refl _) fc))
              have HS21 : Hid (Z21.size = fc.size) := hsz21.symm
              have HNEW := Lib.hid (heap_alloc_new wr (.cells Z21 36))
              clear hsz21 HST
              unfold Z21 at c1
              go_wp2_with (first | (refine wpList_load_at rfl 36 _ rfl b (off + j * 21) rfl fc _ HC.out Tryz.underlying36 rfl HSZ.out ?_) | (refine wpList_store_row rfl 36 _ _ rfl wr.heap.size fc rfl rfl 36 Z21 HNEW.out HSZ.out HS21.out HONE.out ?_))
              go_quiet (refine Calls.quiet_of_same (HCO.out _ (by first | exact HB2.out | exact below_drewN HB2.out _)))
              go_wp2
              go_roundw
              case rel => exact ⟨j + 1, by omega, by go_num, below_drewN HB2.out _⟩
              case measure => simp [intOf]; omega
            · obtain rfl : j = xs.length := by omega
              have HBW := Lib.hid (below_up HB4.out HB.out)
              have HCL := Lib.hid (cloneInt_any zs ha hc wr (by omega) (HRW4.out.below HB.out))
              have HBX5 := Lib.hid (HBX4.out.below HB.out)
              have HBK := Lib.hid HBX5.out.1
              clear HRW4 HBX4 HB4 HCT HS
              go_wp2_with fail
              refine HCL.out.mono ?_
              rintro e w5 ⟨v5, rfl, ho5, hb5⟩
              have HDL := Lib.hid (deleted_any zs v5 wr.heap.size (k : Int) bk q.length _ w5 (by omega) hb5.size ho5 (HBX5.out.below hb5) HLEN.out HCUT.out)
              have HBX6 := Lib.hid (HBX5.out.below hb5)
              have HB5 := Lib.hid (below_up HBW.out hb5)
              clear HBX5 HCL ho5 HCUT
              go_wp2_with fail
              refine HDL.out.mono ?_
              rintro e w6 ⟨⟨a6, c6, rfl, hr6⟩, hb6⟩
              rw [HTK.out] at hr6
              have HR6 := Lib.hid hr6
              have HBX7 : Hid (Box w6 bk #[.int .i64 (k : Int)] 3) := ⟨Nat.lt_of_lt_of_le HBX6.out.1 hb6.size, (hb6.block bk HBK.out).trans HBX6.out.2⟩
              have HB6 := Lib.hid (HB5.out.trans (hb6.mono HBW.out.size))
              clear hr6 hb6 HBX6 HB5 HDL HTK HBW HBK
              have k6 : w6.cell? ⟨bk, 0, none⟩ = some (.int .i64 (k : Int)) := HBX7.out.cell 0
              have hql : q.length ≤ xs.length := Nat.le_trans HLEN.out hzl
              clear HLEN
              rcases HLT.out with ⟨hq0, hla⟩ | ⟨m, z, hqm, hqz, hla⟩
              · have HLA := Lib.hid hla
                have hp0 : q.length = 0 := by rw [hq0]; rfl
                clear hla HLT hq0 HR6 HRP hql
                generalize q.length = p at *
                subst hp0
                go_wp2_with fail
                refine (HLA.out _ HB6.out).mono ?_
                rintro e w7 ⟨rfl, hb7⟩
                have HB7 := Lib.hid (below_up HB6.out hb7)
                clear HLA HB6 k6 hb7
                go_wp2_with fail
                go_loopw [118] (fun iv wr => iv = .int .i64 0 ∧ Hid (Below w7.heap.size w7 wr)) (fun _ _ => 0)
                case atStart => exact ⟨rfl, Below.refl _ _⟩
                case round =>
                  obtain ⟨rfl, HBr⟩ := hrel
                  go_wp2_with fail
                  refine (HAW.out _ (below_up HB7.out HBr.out)).mono ?_
                  rintro e w8 ⟨rfl, hb⟩
                  go_wp2
                  go_ret
                  exact ⟨rfl, below_up (below_up HB7.out HBr.out) hb⟩
              · have HLA := Lib.hid hla
                have HQZ := Lib.hid hqz
                have HR6' := HR6.out
                obtain ⟨b6, o6, rfl, hbl6, hc6⟩ : ∃ b off, a6 = some ⟨b, off, none⟩ ∧ b < w6.heap.size ∧ ∀ k z, (iz q)[k]? = some z → w6.cell? ⟨b, off + k, none⟩ = some (.int .i64 z) := HR6'.resolve_left (fun h => by
                  have := congrArg List.length h
                  rw [iz_len, hqm] at this
                  simp at this)
                have HC6 := Lib.hid hc6
                clear hla HLT HR6' hqz hc6 HR6
                generalize hp : q.length = p at *
                subst hqm
                go_wp2_with fail
                refine (HLA.out _ HB6.out).mono ?_
                rintro e w7 ⟨rfl, hb7⟩
                have HB7 := Lib.hid (below_up HB6.out hb7)
                have c1 : w7.cell? ⟨b6, o6 + m, none⟩ = some (.int .i64 (z : Int)) := (hb7.cell (p := ⟨b6, o6 + m, none⟩) hbl6).trans (HC6.out m _ (iz_get HQZ.out))
                have HC7 : Hid (∀ (k z : Nat), q[k]? = some z → w7.cell? ⟨b6, o6 + k, none⟩ = some (.int .i64 (z : Int))) := fun k z hz => (hb7.cell (p := ⟨b6, o6 + k, none⟩) hbl6).trans (HC6.out k _ (iz_get hz))
                have HBX8 := Lib.hid (HBX7.out.below hb7)
                have hbl7 : b6 < w7.heap.size := Nat.lt_of_lt_of_le hbl6 hb7.size
                clear HLA HB6 k6 hb7 HC6 HBX7 hbl6
                go_wp2_with fail
                clear c1 HQZ
                go_loopw [118] (fun iv wr => ∃ j : Nat, j ≤ m + 1 ∧ iv = .int .i64 j ∧ Hid (Below w7.heap.size w7 wr)) (fun iv _ => m + 1 - (intOf iv).toNat)
                case atStart => exact ⟨0, Nat.zero_le _, rfl, Below.refl _ _⟩
                case round =>
                  obtain ⟨j, hj, rfl, HBr⟩ := hrel
                  have HBW := Lib.hid (below_up HB7.out HBr.out)
                  by_cases hlt : j < m + 1
                  · obtain ⟨i, hi⟩ : ∃ i, q[j]? = some i := ⟨_, List.getElem?_eq_getElem (by rw [hp]; exact hlt)⟩
                    have ki : wr.cell? ⟨b6, o6 + j, none⟩ = some (.int .i64 (i : Int)) := (HBr.out.cell (p := ⟨b6, o6 + j, none⟩) hbl7).trans (HC7.out j i hi)
                    have kk : wr.cell? ⟨bk, 0, none⟩ = some (.int .i64 (k : Int)) := (HBX8.out.below HBr.out).cell 0
                    rcases HRP.out j i hi with ⟨hj1, hr⟩ | ⟨z2, hj1, hz2, hr⟩
                    · have HRR := Lib.hid (hr wr HBW.out)
                      have hjm : j = m := by omega
                      clear hr hi hj1
                      subst hjm
                      go_wp2_with fail
                      refine HRR.out.mono ?_
                      rintro e w8 ⟨rfl, hb8⟩
                      have HB8 := Lib.hid (below_up HBr.out hb8)
                      clear HRR hb8 ki kk
                      go_wp2_with fail
                      go_roundw
                      case rel => exact ⟨j + 1, by omega, by go_num, HB8⟩
                      case measure => simp [intOf]
                    · have HRR := Lib.hid (hr wr HBW.out)
                      have hjm : j < m := by omega
                      have HZ2 := Lib.hid hz2
                      clear hr hi hj1 hz2
                      go_wp2_with fail
                      refine HRR.out.mono ?_
                      rintro e w8 ⟨rfl, hb8⟩
                      have HB8 := Lib.hid (below_up HBr.out hb8)
                      have kz : w8.cell? ⟨b6, o6 + (j + 1), none⟩ = some (.int .i64 (z2 : Int)) := (HB8.out.cell (p := ⟨b6, o6 + (j + 1), none⟩) hbl7).trans (HC7.out (j + 1) z2 HZ2.out)
                      clear HRR hb8 ki kk HZ2
                      go_wp2_with fail
                      go_roundw
                      case rel => exact ⟨j + 1, by omega, by go_num, HB8⟩
                      case measure => simp [intOf]; omega
                  · obtain rfl : j = m + 1 := by omega
                    go_wp2_with fail
                    refine (HAW.out _ HBW.out).mono ?_
                    rintro e w8 ⟨rfl, hb⟩
                    go_wp2
                    go_ret
                    exact ⟨rfl, below_up HBW.out hb⟩
        · have h0' : (lcheck (xs.map FactV.f) != 0) = true := by simpa using h0
          clear h0
          generalize lcheck (xs.map FactV.f) = le at *
          go_wp2_with fail
          refine (HAW.out _ HB2.out).mono ?_
          rintro e w3 ⟨rfl, hb⟩
          go_wp2
          go_ret
          exact ⟨rfl, below_up HB2.out hb⟩
theorem factlogHistoryLaw_any (xs : List FactV) (x : Int) (key : List UInt8) (a : Option Addr) (c : Nat) (w : World) (hE : Env w) (hn : xs.length ≤ 9223372036854775807) (hcap : xs.length ≤ c) (hr : Facts w a xs) (hf : ∀ x, x ∈ xs → x.fits) (h0 : 0 ≤ x) (h1 : x ≤ 255) (hkey : key.length ≤ maxLen) :
    Calls Tryz.prog 6 #[.slice a xs.length c, .int .u8 x, .string ⟨key.toArray⟩] w fun e w' => e = .returned (.bool true) ∧ Below w.heap.size w w' := by
  obtain ⟨kn, rfl⟩ := Int.eq_ofNat_of_zero_le h0
  exact factlogHistoryLaw_nat xs kn key a c w hE hn hcap hr hf (by omega) (by unfold maxLen at hkey; omega)
end Go.Proofs.YtgopbldkhlmbnaaGreatDoor
