/- LaterLaw -/
import Derived.Test.YtgopbldkhlmbnaaGreatDoorJAwake
import Derived.Test.YtgopbldkhlmbnaaGreatDoorJGreat2
import Derived.Test.YtgopbldkhlmbnaaGreatDoorJReads
import Derived.Test.YtgopbldkhlmbnaaGreatDoorJKeys
import Derived.Test.YtgopbldkhlmbnaaGreatDoorJHistP
namespace Go.Proofs.YtgopbldkhlmbnaaGreatDoor
open Go Go.RowKit Num
theorem latest_form (fs : List FactP) (key : List UInt8) (k : Nat) : ∃ (i : Int) (b : Bool), latestV fs key k = .tuple #[.int .i64 i, .bool b, .int .i64 0] := by
  unfold latestV
  split
  · exact ⟨_, _, rfl⟩
  · exact ⟨_, _, rfl⟩
theorem replaced_form (i : Nat) (l : List Nat) : ∃ (z : Int) (b : Bool), replacedV i l = .tuple #[.int .i64 z, .bool b, .int .i64 0] := by
  cases l with
  | nil => exact ⟨_, _, rfl⟩
  | cons x l => exact ⟨_, _, rfl⟩
set_option maxHeartbeats 16000000 in
set_option maxRecDepth 100000 in
theorem factlogLaterLaw_nat (xs : List FactV) (kn at8 : Nat) (key : List UInt8) (a : Option Addr) (c : Nat) (w : World) (hE : Env w) (hn : xs.length ≤ 9223372036854775807) (hcap : xs.length ≤ c) (hr : Facts w a xs) (hf : ∀ x, x ∈ xs → x.fits) (hkn : kn < 256) (hat8 : at8 < 256) (hkey : key.length ≤ 9223372036854775807) :
    Calls Tryz.prog 8 #[.slice a xs.length c, .int .u8 (kn : Int), .int .u8 (at8 : Int), .string ⟨key.toArray⟩] w fun e w' => e = .returned (.bool true) ∧ Below w.heap.size w w' := by
  have HG := Lib.hid (greatLog_any xs a c w hn hr hf)
  have HAW : Hid (∀ W, Below w.heap.size w W → Calls Tryz.prog 12 #[] W fun e w' => e = .returned (.bool true) ∧ Below W.heap.size W w') := fun W hb => awake14_any W (hE.below hb)
  have HE := Lib.hid hE
  have HR := Lib.hid hr
  have HF := Lib.hid hf
  clear hE hr hf
  go_enter Tryz.func8, Tryz.ntmps8
  go_wp2_with fail
  refine HG.out.mono ?_
  rintro e w1 ⟨⟨g, rfl, hg⟩, hb⟩
  have HB1 := Lib.hid hb
  have HGS := Lib.hid hg
  clear hb hg HG
  cases g with
  | true =>
    go_wp2_with fail
    refine (HAW.out _ HB1.out).mono ?_
    rintro e w2 ⟨rfl, hb⟩
    go_wp2
    go_ret
    exact ⟨rfl, below_up HB1.out hb⟩
  | false =>
    have HSM := Lib.hid (HGS.out rfl)
    clear HGS
    by_cases hlen : 12 < xs.length
    · go_wp2_with fail
      refine (HAW.out _ HB1.out).mono ?_
      rintro e w2 ⟨rfl, hb⟩
      go_wp2
      go_ret
      exact ⟨rfl, below_up HB1.out hb⟩
    · by_cases hkl : 30 < key.length
      · go_wp2_with fail
        refine (HAW.out _ HB1.out).mono ?_
        rintro e w2 ⟨rfl, hb⟩
        go_wp2
        go_ret
        exact ⟨rfl, below_up HB1.out hb⟩
      · have HL : Hid (LogAt w a c xs) := ⟨HR.out, fun x hx => ⟨HSM.out x hx, (HF.out x hx).picks⟩, by omega, hcap⟩
        have HCK := Lib.hid (logCheck_any xs a c w1 (HE.out.below HB1.out) (by omega) (HL.out.below HB1.out).facts (HL.out.below HB1.out).ok)
        clear HR HF HSM
        go_wp2_with fail
        refine HCK.out.mono ?_
        rintro e w2 ⟨rfl, hb⟩
        have HB2 := Lib.hid (below_up HB1.out hb)
        clear hb HCK
        by_cases h0 : lcheck (xs.map FactV.f) = 0
        · obtain ⟨k, hk⟩ : ∃ k, k = kn % (xs.length + 1) := ⟨_, rfl⟩
          have hkle : k ≤ xs.length := by have := Nat.mod_lt kn (show 0 < xs.length + 1 by omega); omega
          have htl : (xs.take k).length = k := by rw [List.length_take]; omega
          have h0t : lcheck ((xs.take k).map FactV.f) = 0 := by rw [List.map_take]; exact lcheck_take h0 k
          have htt : (xs.take k).take k = xs.take k := by rw [List.take_take, Nat.min_self]
          have HLT := Lib.hid (HL.out.take k)
          obtain ⟨li, lb, hlv⟩ := latest_form ((xs.take k).map FactV.f) key k
          have HA1 : Hid (∀ W, Below w.heap.size w W → Calls Tryz.prog 28 #[.slice a xs.length c, .int .i64 (k : Int), .string ⟨key.toArray⟩] W fun e w' => e = .returned (.tuple #[.int .i64 li, .bool lb, .int .i64 0]) ∧ Below W.heap.size W w') := fun W hb => by
            have h := latest_any xs a c key k hkle W (HE.out.below hb) (HL.out.below hb) h0
            rw [hlv] at h; exact h
          have HA2 : Hid (∀ W, Below w.heap.size w W → Calls Tryz.prog 28 #[.slice a k c, .int .i64 (k : Int), .string ⟨key.toArray⟩] W fun e w' => e = .returned (.tuple #[.int .i64 li, .bool lb, .int .i64 0]) ∧ Below W.heap.size W w') := fun W hb => by
            have h := latest_any (xs.take k) a c key k (by omega) W (HE.out.below hb) (HLT.out.below hb) h0t
            rw [htt, hlv, htl] at h; exact h
          obtain ⟨ks, hks⟩ : ∃ ks, ks = keysV ((xs.take k).map FactV.f) := ⟨_, rfl⟩
          have HKL : Hid (ks.length ≤ 12) := by have h := keys_len_le ((xs.take k).map FactV.f); rw [← hks, List.length_map, htl] at h; show _ ≤ _; omega
          have HK1 : Hid (∀ W, Below w.heap.size w W → Calls Tryz.prog 32 #[.slice a xs.length c, .int .i64 (k : Int)] W fun e w' => ∃ v, e = .returned (.tuple #[v, .int .i64 0]) ∧ w'.ownsRow W.heap.size 9 1 v ks.length (strsV ks) ∧ Below W.heap.size W w') := fun W hb => by
            have h := keys_any xs a c k hkle W (HE.out.below hb) (HL.out.below hb) h0
            rw [← hks] at h; exact h
          have HK2 : Hid (∀ W, Below w.heap.size w W → Calls Tryz.prog 32 #[.slice a k c, .int .i64 (k : Int)] W fun e w' => ∃ v, e = .returned (.tuple #[v, .int .i64 0]) ∧ w'.ownsRow W.heap.size 9 1 v ks.length (strsV ks) ∧ Below W.heap.size W w') := fun W hb => by
            have h := keys_any (xs.take k) a c k (by omega) W (HE.out.below hb) (HLT.out.below hb) h0t
            rw [htt, htl, ← hks] at h; exact h
          have HRP : Hid (∀ i, i < k → ∃ (ri : Int) (rb : Bool), (∀ W, Below w.heap.size w W → Calls Tryz.prog 29 #[.slice a xs.length c, .int .i64 (k : Int), .int .i64 (i : Int)] W fun e w' => e = .returned (.tuple #[.int .i64 ri, .bool rb, .int .i64 0]) ∧ Below W.heap.size W w') ∧
              (∀ W, Below w.heap.size w W → Calls Tryz.prog 29 #[.slice a k c, .int .i64 (k : Int), .int .i64 (i : Int)] W fun e w' => e = .returned (.tuple #[.int .i64 ri, .bool rb, .int .i64 0]) ∧ Below W.heap.size W w')) := fun i hik => by
            obtain ⟨x, hx⟩ : ∃ x, xs[i]? = some x := ⟨_, List.getElem?_eq_getElem (by omega)⟩
            obtain ⟨ri, rb, hrv⟩ := replaced_form i (fwd ((behind xs k i).map FactV.f) x.f.key (behind xs k i).length 0)
            refine ⟨ri, rb, fun W hb => ?_, fun W hb => ?_⟩
            · have h := replaced_any xs a c k i x hkle hik hx W (HE.out.below hb) (HL.out.below hb) h0
              rw [hrv] at h; exact h
            · have h := replaced_any (xs.take k) a c k i x (by omega) hik (by rw [List.getElem?_take_of_lt hik]; exact hx) W (HE.out.below hb) (HLT.out.below hb) h0t
              have e : behind (xs.take k) k i = behind xs k i := by unfold behind; rw [htt]
              rw [e, hrv, htl] at h; exact h
          rw [h0]
          have hz1 : ¬ (xs.length : Int) + 1 = 0 := by omega
          have hkm : (kn : Int) % ((xs.length : Int) + 1) = (k : Int) := by rw [hk]; exact (Int.natCast_emod kn (xs.length + 1)).symm
          have hkt : (kn : Int).tmod ((xs.length : Int) + 1) = (k : Int) := by rw [Int.tmod_eq_emod_of_nonneg (by omega)]; exact hkm
          have hatm : (at8 : Int) % (k : Int) = ((at8 % k : Nat) : Int) := (Int.natCast_emod at8 k).symm
          have hatt : (at8 : Int).tmod (k : Int) = ((at8 % k : Nat) : Int) := by rw [Int.tmod_eq_emod_of_nonneg (by omega)]; exact hatm
          have HIK : Hid (0 < k → at8 % k < k) := fun h => Nat.mod_lt _ h
          have hib : at8 % k ≤ at8 := Nat.mod_le _ _
          generalize at8 % k = i at *
          have HZ1 := Lib.hid hz1
          have HKT := Lib.hid hkt
          have HATT := Lib.hid hatt
          clear h0 h0t hlv hks htl htt hk hz1 hkm hkt hatm hatt
          go_wp2_with (refine wpList_rem _ rfl (some 51) rfl _ _ _ _ rfl .i64 _ _ _ rfl rfl HZ1.out HKT.out ?_; simp only [Act.put, List.setIfInBounds_toArray, List.set_cons_zero, List.set_cons_succ])
          refine (HA1.out _ HB2.out).mono ?_
          rintro e w3 ⟨rfl, hb⟩
          have HB3 := Lib.hid (below_up HB2.out hb)
          clear hb HA1 HB1 HB2
          go_wp2_with fail
          refine (HA2.out _ HB3.out).mono ?_
          rintro e w4 ⟨rfl, hb⟩
          have HB4 := Lib.hid (below_up HB3.out hb)
          clear hb HA2 HB3
          go_wp2_with fail
          refine (HK1.out _ HB4.out).mono ?_
          rintro e w5 ⟨v5, rfl, ho5, hb⟩
          obtain ⟨a5, c5, rfl, hr5, _, _⟩ := owned_row ho5
          have HB5 := Lib.hid (below_up HB4.out hb)
          have HR5 := Lib.hid hr5
          clear hb HK1 HB4 ho5 hr5
          go_wp2_with fail
          refine (HK2.out _ HB5.out).mono ?_
          rintro e w6 ⟨v6, rfl, ho6, hb⟩
          obtain ⟨a6, c6, rfl, hr6, _, _⟩ := owned_row ho6
          have HB6 := Lib.hid (below_up HB5.out hb)
          have HEQ := Lib.hid (equalStr_any ks ks a5 a6 c5 c6 w6 (by have := HKL.out; omega) (by have := HKL.out; omega) (HR5.out.below hb) hr6)
          clear hb HK2 HB5 ho6 hr6 HR5
          have HEQ2 : Hid (Calls Tryz.prog 36 #[.slice a5 ks.length c5, .slice a6 ks.length c6] w6 fun e w' => e = .returned (.bool true) ∧ Below w6.heap.size w6 w') := by
            have h := HEQ.out
            rw [decide_eq_true rfl] at h
            exact h
          clear HEQ
          go_wp2_with fail
          refine HEQ2.out.mono ?_
          rintro e w7 ⟨rfl, hb⟩
          have HB7 := Lib.hid (below_up HB6.out hb)
          clear hb HEQ2 HB6 HKL
          by_cases hk0 : k = 0
          · subst hk0
            clear HIK HRP HATT
            go_wp2_with fail
            refine (HAW.out _ HB7.out).mono ?_
            rintro e w8 ⟨rfl, hb⟩
            go_wp2
            go_ret
            exact ⟨rfl, below_up HB7.out hb⟩
          · have hik := HIK.out (by omega)
            obtain ⟨ri, rb, hr1, hr2⟩ := HRP.out i hik
            have HR1 := Lib.hid hr1
            have HR2 := Lib.hid hr2
            have HNZ : Hid ((k : Int) ≠ 0) := by show _ ≠ _; omega
            clear hr1 hr2 HRP HIK
            go_wp2_with (refine wpList_rem _ rfl (some 121) rfl _ _ _ _ rfl .i64 _ _ _ rfl rfl HNZ.out HATT.out ?_; simp only [Act.put, List.setIfInBounds_toArray, List.set_cons_zero, List.set_cons_succ])
            refine (HR1.out _ HB7.out).mono ?_
            rintro e w8 ⟨rfl, hb⟩
            have HB8 := Lib.hid (below_up HB7.out hb)
            clear hb HR1 HB7
            go_wp2_with fail
            refine (HR2.out _ HB8.out).mono ?_
            rintro e w9 ⟨rfl, hb⟩
            have HB9 := Lib.hid (below_up HB8.out hb)
            clear hb HR2 HB8
            go_wp2_with fail
            refine (HAW.out _ HB9.out).mono ?_
            rintro e w8 ⟨rfl, hb⟩
            go_wp2
            go_ret
            exact ⟨rfl, below_up HB9.out hb⟩
        · have h0' : (lcheck (xs.map FactV.f) != 0) = true := by simpa using h0
          clear h0
          generalize lcheck (xs.map FactV.f) = le at *
          go_wp2_with fail
          refine (HAW.out _ HB2.out).mono ?_
          rintro e w3 ⟨rfl, hb⟩
          go_wp2
          go_ret
          exact ⟨rfl, below_up HB2.out hb⟩
theorem factlogLaterLaw_any (xs : List FactV) (x y : Int) (key : List UInt8) (a : Option Addr) (c : Nat) (w : World) (hE : Env w) (hn : xs.length ≤ 9223372036854775807) (hcap : xs.length ≤ c) (hr : Facts w a xs) (hf : ∀ x, x ∈ xs → x.fits) (h0 : 0 ≤ x) (h1 : x ≤ 255) (h2 : 0 ≤ y) (h3 : y ≤ 255) (hkey : key.length ≤ maxLen) :
    Calls Tryz.prog 8 #[.slice a xs.length c, .int .u8 x, .int .u8 y, .string ⟨key.toArray⟩] w fun e w' => e = .returned (.bool true) ∧ Below w.heap.size w w' := by
  obtain ⟨kn, rfl⟩ := Int.eq_ofNat_of_zero_le h0
  obtain ⟨at8, rfl⟩ := Int.eq_ofNat_of_zero_le h2
  exact factlogLaterLaw_nat xs kn at8 key a c w hE hn hcap hr hf (by omega) (by omega) (by unfold maxLen at hkey; omega)
end Go.Proofs.YtgopbldkhlmbnaaGreatDoor
