/- The law of Aging: it returns true. -/
import Derived.Test.YthlpfefckhdpiaaGreatDoorRefAging
import Derived.Test.YthlpfefckhdpiaaGreatDoorAgesPure
import Derived.Test.YthlpfefckhdpiaaGreatDoorAwake23
namespace Go.Proofs.YthlpfefckhdpiaaGreatDoor
open Go.RowKit Num Dt
attribute [local go_sem] str_append str_extract str_size setCell_drewN

set_option maxHeartbeats 1000000 in
theorem equal_strs (xs : List (List UInt8)) (a1 a2 : Option Addr) (c1 c2 : Nat) (w : World) (hl : xs.length ≤ 1000000) (h1 : Row w a1 (strs xs)) (h2 : Row w a2 (strs xs)) :
    Calls Tryz.prog 17 #[.slice a1 xs.length c1, .slice a2 xs.length c2] w fun e w' => e = .returned (.bool true) ∧ Below w.heap.size w w' := by
  have H1 := Lib.hid h1
  have H2 := Lib.hid h2
  clear h1 h2
  go_enter Tryz.func17, Tryz.ntmps17
  go_wp2
  go_loopw [13] (fun i W => Hid (Below w.heap.size w W) ∧ ∃ k : Nat, k ≤ xs.length ∧ i = .int .i64 (k : Int)) (fun i _ => xs.length - (intOf i).toNat)
  case atStart => exact ⟨Below.refl _ _, 0, Nat.zero_le _, rfl⟩
  case round =>
    obtain ⟨HB, k, hk, rfl⟩ := hrel
    by_cases hlt : k < xs.length
    · obtain ⟨s, hs⟩ : ∃ s, xs[k]? = some s := ⟨xs[k], List.getElem?_eq_getElem hlt⟩
      have hne : strs xs ≠ [] := by intro e; have := congrArg List.length e; simp [strs] at this; rw [this] at hlt; simp at hlt
      have hg : (strs xs)[k]? = some (.string ⟨s.toArray⟩) := by unfold strs; rw [List.getElem?_map, hs]; rfl
      obtain ⟨b1, o1, ha1, _, hc1⟩ := (H1.out.below HB.out).addr hne
      obtain ⟨b2, o2, ha2, _, hc2⟩ := (H2.out.below HB.out).addr hne
      have k1 := hc1 k _ hg
      have k2 := hc2 k _ hg
      subst ha1 ha2
      clear hc1 hc2 hg hs hne
      go_wp2_with fail
      go_quiet (fail)
      go_wp2
      go_round
      case rel => exact ⟨below_drewN HB.out _, k + 1, by omega, by go_num⟩
      case measure => simp [intOf]; omega
    · obtain rfl : k = xs.length := by omega
      go_wp2
      go_ret
      exact ⟨rfl, HB.out⟩
theorem aging_len (ls : List LotP) (d : Int) (zs : List Int) : (aging ls d zs).1.length ≤ zs.length + 1 := by
  unfold aging
  split
  · simp
  · split
    · simp
    · split
      · simp
      · split
        · simp
        · by_cases h : ∃ x, x ∈ ls ∧ d < x.acq
          · rw [ageAll_none _ _ h]; simp [agFin]
          · rw [ageAll_some _ _ (fun x hx => by
              by_cases g : d < x.acq
              · exact absurd ⟨x, hx, g⟩ h
              · omega)]
            have hf : ∀ (l : List LotP) (o : List (List UInt8)), (l.foldl (fun o x => addAt o (olds d zs x) x.c) o).length = o.length := by
              intro l
              induction l with
              | nil => intro o; rfl
              | cons y r ih => intro o; rw [List.foldl_cons, ih, addAt_length]
            simp [agFin, hf]
theorem not_great13 {ls : List LotP} (h : greats ls = false) : ∀ x, x ∈ ls → x.small ∧ x.c.length ≤ 13 := by
  intro x hx
  refine ⟨not_great h x hx, ?_⟩
  have h2 : ls.any LotP.great = false := (Bool.or_eq_false_iff.1 h).2
  rw [List.any_eq_false] at h2
  have := h2 x hx
  unfold LotP.great at this
  simp at this
  omega
set_option maxHeartbeats 4000000 in
set_option maxRecDepth 100000 in
theorem holdingAgingLaw_any (ls : List LotP) (d : Int) (zs : List Int) (a a2 : Option Addr) (c c2 : Nat) (w : World) (hE : Env w) (hn : ls.length ≤ 9223372036854775807) (hc : ls.length ≤ c) (hw : Lots w a ls) (hs : ∀ x, x ∈ ls → x.fits) (hn2 : zs.length ≤ 9223372036854775807) (_hc2 : zs.length ≤ c2) (hw2 : Ints w a2 zs) :
    Calls Tryz.prog 4 #[.slice a ls.length c, .int .i64 d, .slice a2 zs.length c2] w fun e w' => e = .returned (.bool true) ∧ Below w.heap.size w w' := by
  have HA := Lib.hid awake_any
  have HW := Lib.hid hw
  have HW2 := Lib.hid hw2
  have HE := Lib.hid hE
  have H1 := Lib.hid (great_any ls a c w hn hw hs)
  clear hw hw2 hE hs
  go_enter Tryz.func4, Tryz.ntmps4
  go_wp2_with fail
  refine H1.out.mono ?_
  rintro e w1 ⟨rfl, hb⟩
  have HB := Lib.hid hb
  clear hb H1
  cases hg : greats ls
  case true =>
    go_wp2_with fail
    refine (HA.out _).mono ?_
    rintro e w2 ⟨rfl, hb⟩
    go_wp2
    go_ret
    exact ⟨rfl, below_up HB.out hb⟩
  by_cases g1 : (12 : Int) < ls.length
  case pos =>
    go_wp2_with fail
    refine (HA.out _).mono ?_
    rintro e w2 ⟨rfl, hb⟩
    go_wp2
    go_ret
    exact ⟨rfl, below_up HB.out hb⟩
  by_cases g2 : (10 : Int) < zs.length
  case pos =>
    go_wp2_with fail
    refine (HA.out _).mono ?_
    rintro e w2 ⟨rfl, hb⟩
    go_wp2
    go_ret
    exact ⟨rfl, below_up HB.out hb⟩
  have hsm := not_great13 hg
  have H2 := Lib.hid (fun W (hb : Below w.heap.size w W) => aging_any ls d zs a a2 c c2 W (HE.out.below hb) (by omega) (by omega) (HW.out.below hb) (HW2.out.below hb) (fun x hx => (hsm x hx).1))
  have H3 := Lib.hid (fun W (hb : Below w.heap.size w W) => raging_any ls d zs a a2 c c2 W (by omega) hc (by omega) (HW.out.below hb) (HW2.out.below hb) hsm)
  have hL := Lib.hid (aging_len ls d zs)
  clear hsm hg
  generalize aging ls d zs = r at *
  obtain ⟨xs, er⟩ := r
  simp only at H2 H3 hL
  go_wp2_with fail
  refine (H2.out _ HB.out).mono ?_
  rintro e w2 ⟨⟨a3, c3, rfl, r3⟩, hb⟩
  have R3 := Lib.hid r3
  have HB := Lib.hid (below_up HB.out hb)
  clear hb H2 r3
  go_wp2_with fail
  refine (H3.out _ HB.out).mono ?_
  rintro e w3 ⟨⟨a4, c4, rfl, r4⟩, hb⟩
  have R3 := Lib.hid (R3.out.below hb)
  have R4 := Lib.hid r4
  have HB := Lib.hid (below_up HB.out hb)
  have H4 := Lib.hid (equal_strs xs a3 a4 c3 c4 w3 (by have := hL.out; omega) R3.out R4.out)
  clear hb H3 r4 R3 R4
  go_wp2_with fail
  refine H4.out.mono ?_
  rintro e w4 ⟨rfl, hb⟩
  have HB := Lib.hid (below_up HB.out hb)
  clear hb H4
  go_wp2_with fail
  refine (HA.out _).mono ?_
  rintro e w2 ⟨rfl, hb⟩
  go_wp2
  go_ret
  exact ⟨rfl, below_up HB.out hb⟩
end Go.Proofs.YthlpfefckhdpiaaGreatDoor
