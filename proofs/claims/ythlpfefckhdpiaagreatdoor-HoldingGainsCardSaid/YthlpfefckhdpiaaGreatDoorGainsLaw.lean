/- The law of the gains: it returns true. -/
import Derived.Test.YthlpfefckhdpiaaGreatDoorRefGains2
import Derived.Test.YthlpfefckhdpiaaGreatDoorPost
import Derived.Test.YthlpfefckhdpiaaGreatDoorAwake23
namespace Go.Proofs.YthlpfefckhdpiaaGreatDoor
open Go.RowKit Num Dt
attribute [local go_sem] str_append str_extract str_size setCell_drewN

set_option maxHeartbeats 8000000 in
set_option maxRecDepth 100000 in
theorem holdingGainsLaw_any (gs : List GainP) (m : Int) (a : Option Addr) (c : Nat) (w : World) (hE : Env w) (hn : gs.length ≤ 9223372036854775807) (_hc : gs.length ≤ c) (hw : Gains w a gs) (hs : ∀ x, x ∈ gs → x.fits) :
    Calls Tryz.prog 6 #[.slice a gs.length c, .int .i64 m] w fun e w' => e = .returned (.bool true) ∧ Below w.heap.size w w' := by
  have HA := Lib.hid awake_any
  have H1 := Lib.hid (rggreat_any gs a c w hn hw hs)
  have HW := Lib.hid hw
  have HE := Lib.hid hE
  clear hw hE hs
  go_enter Tryz.func6, Tryz.ntmps6
  go_wp2_with fail
  refine H1.out.mono ?_
  rintro e w1 ⟨rfl, hb⟩
  have HB := Lib.hid hb
  clear hb H1
  cases hg : ggreats gs
  case true =>
    go_wp2_with fail
    refine (HA.out _).mono ?_
    rintro e w2 ⟨rfl, hb⟩
    go_wp2
    go_ret
    exact ⟨rfl, below_up HB.out hb⟩
  obtain ⟨hsm, hn12⟩ := fine_small hg
  have H2 := Lib.hid (fun W (hb : Below w.heap.size w W) => split_any gs m a c W (HE.out.below hb) (by omega) (HW.out.below hb) hsm)
  have H3 := Lib.hid (fun W (hb : Below w.heap.size w W) => rsplit_any gs m a c W (by omega) (HW.out.below hb) hsm)
  have H4 := Lib.hid (fun W (hb : Below w.heap.size w W) => sums_any gs m a c W (HE.out.below hb) (by omega) (HW.out.below hb) hsm)
  have H5 := Lib.hid (fun W (hb : Below w.heap.size w W) => rsums_any gs m a c W (by omega) (HW.out.below hb) hsm)
  have H6 := Lib.hid (fun W (hb : Below w.heap.size w W) => terms_any gs m a c W (HE.out.below hb) (by omega) (HW.out.below hb) hsm)
  have H7 := Lib.hid (fun W (hb : Below w.heap.size w W) => rterms_any gs m a c W (by omega) (HW.out.below hb) hsm)
  have HR := Lib.hid (fun W (a : Option Addr) (h : Row W a (termCells gs m)) => terms_of_row h)
  have hm := splitRes_mem gs m
  have H8 := Lib.hid (fun (a a2 : Option Addr) (c c2 : Nat) W h1 h2 => sameGains_eq (splitRes gs m).1 a a2 c c2 W (by omega) h1 h2)
  have H9 := Lib.hid (fun (a a2 : Option Addr) (c c2 : Nat) W h1 h2 => sameGains_eq (splitRes gs m).2 a a2 c c2 W (by omega) h1 h2)
  have hT : (termList gs m).length ≤ 1000 := by rw [termList_length]; unfold termLen; split <;> decide
  have H10 := Lib.hid (fun (a a2 : Option Addr) (c c2 : Nat) W h1 h2 => sameTerms_eq (termList gs m) a a2 c c2 W hT h1 h2)
  rw [termList_length] at H10 hT
  clear hm hg hsm hn12
  generalize splitErr gs m = z at *
  generalize splitRes gs m = sp at *
  generalize sumsRes gs m = su at *
  generalize termCells gs m = tc at *
  generalize termList gs m = tls at *
  generalize termLen gs m = tn at *
  obtain ⟨l1, l2⟩ := sp
  obtain ⟨u1, u2⟩ := su
  simp only at *
  go_wp2_with fail
  refine (H2.out _ HB.out).mono ?_
  rintro e w2 ⟨⟨a1, c1, a2, c2, rfl, G1, G2⟩, hb⟩
  have HB := Lib.hid (below_up HB.out hb)
  have G := Lib.hid (And.intro G1 G2)
  clear hb G1 G2 H2
  go_wp2_with fail
  refine (H3.out _ HB.out).mono ?_
  rintro e w3 ⟨⟨a3, c3, a4, c4, rfl, G3, G4⟩, hb⟩
  have HB := Lib.hid (below_up HB.out hb)
  have G := Lib.hid (And.intro (And.intro (G.out.1.below hb) G3) (And.intro (G.out.2.below hb) G4))
  clear hb G3 G4 H3
  go_wp2_with fail
  refine (H4.out _ HB.out).mono ?_
  rintro e w4 ⟨rfl, hb⟩
  have HB := Lib.hid (below_up HB.out hb)
  have G := Lib.hid (And.intro (And.intro (G.out.1.1.below hb) (G.out.1.2.below hb)) (And.intro (G.out.2.1.below hb) (G.out.2.2.below hb)))
  clear hb H4
  go_wp2_with fail
  refine (H5.out _ HB.out).mono ?_
  rintro e w5 ⟨rfl, hb⟩
  have HB := Lib.hid (below_up HB.out hb)
  have G := Lib.hid (And.intro (And.intro (G.out.1.1.below hb) (G.out.1.2.below hb)) (And.intro (G.out.2.1.below hb) (G.out.2.2.below hb)))
  clear hb H5
  go_wp2_with fail
  refine (H6.out _ HB.out).mono ?_
  rintro e w6 ⟨⟨a5, c5, rfl, R5⟩, hb⟩
  have HB := Lib.hid (below_up HB.out hb)
  have G := Lib.hid (And.intro (And.intro (G.out.1.1.below hb) (G.out.1.2.below hb)) (And.intro (G.out.2.1.below hb) (G.out.2.2.below hb)))
  have T := Lib.hid (HR.out _ _ R5)
  clear hb H6 R5
  go_wp2_with fail
  refine (H7.out _ HB.out).mono ?_
  rintro e w7 ⟨⟨a6, c6, rfl, R6⟩, hb⟩
  have HB := Lib.hid (below_up HB.out hb)
  have G := Lib.hid (And.intro (And.intro (G.out.1.1.below hb) (G.out.1.2.below hb)) (And.intro (G.out.2.1.below hb) (G.out.2.2.below hb)))
  have T := Lib.hid (And.intro (T.out.below hb) (HR.out _ _ R6))
  clear hb H7 R6
  go_wp2_with fail
  refine (H8.out _ _ _ _ _ G.out.1.1 G.out.1.2).mono ?_
  rintro e w8 ⟨rfl, hb⟩
  have HB := Lib.hid (below_up HB.out hb)
  have G := Lib.hid (And.intro (G.out.2.1.below hb) (G.out.2.2.below hb))
  have T := Lib.hid (And.intro (T.out.1.below hb) (T.out.2.below hb))
  clear hb H8
  go_wp2_with fail
  refine (H9.out _ _ _ _ _ G.out.1 G.out.2).mono ?_
  rintro e w9 ⟨rfl, hb⟩
  have HB := Lib.hid (below_up HB.out hb)
  have T := Lib.hid (And.intro (T.out.1.below hb) (T.out.2.below hb))
  clear hb H9
  go_wp2_with fail
  refine (H10.out _ _ _ _ _ T.out.1 T.out.2).mono ?_
  rintro e w10 ⟨rfl, hb⟩
  have HB := Lib.hid (below_up HB.out hb)
  clear hb H10
  go_wp2_with fail
  refine (HA.out _).mono ?_
  rintro e w11 ⟨rfl, hb⟩
  go_wp2
  go_ret
  exact ⟨rfl, below_up HB.out hb⟩
end Go.Proofs.YthlpfefckhdpiaaGreatDoor
