/- The law of the terms: it returns true. -/
import Derived.Test.YthlpfefckhdpiaaGreatDoorTotal
import Derived.Test.YthlpfefckhdpiaaGreatDoorAmount
import Derived.Test.YthlpfefckhdpiaaGreatDoorConcat2
import Derived.Test.YthlpfefckhdpiaaGreatDoorPost
import Derived.Test.YthlpfefckhdpiaaGreatDoorAwake23
namespace Go.Proofs.YthlpfefckhdpiaaGreatDoor
open Go.RowKit Num Dt
attribute [local go_sem] str_append str_extract str_size setCell_drewN

theorem tt_filter (f : GainP → List UInt8) (p : GainP → Bool) : ∀ gs : List GainP, sumOf f (gs.filter p) + sumOf f (gs.filter fun x => !p x) = sumOf f gs
  | [] => rfl
  | x :: r => by
    have ih := tt_filter f p r
    have e : ∀ (y : GainP) l, sumOf f (y :: l) = val (f y) + sumOf f l := fun y l => by simp [sumOf]
    cases h : p x <;> simp only [List.filter_cons, h, e, Bool.not_true, Bool.not_false, if_true] <;> simp only [Bool.false_eq_true, if_false] <;> omega
theorem tt_append (f : GainP → List UInt8) (a b : List GainP) : sumOf f (a ++ b) = sumOf f a + sumOf f b := by simp [sumOf]
theorem tt_len {gs : List GainP} {f : GainP → List UInt8} : (∀ x, x ∈ gs → (f x).length ≤ 2000) → (canon (sumOf f gs)).length ≤ 2000 + 2 * gs.length := by
  induction gs with
  | nil => intro _; show (canon 0).length ≤ _; rw [canon_zero]; simp
  | cons x r ih =>
    intro hf
    have h1 := ih (fun y hy => hf y (by simp [hy]))
    have h2 := hf x (by simp)
    have h3 := add_len (l := f x) (m := canon (sumOf f r)) (K := 2000 + 2 * r.length) (by omega) h1
    rw [val_canon] at h3
    rw [show sumOf f (x :: r) = val (f x) + sumOf f r by simp [sumOf], List.length_cons]
    omega
theorem tt_real : ∀ gs : List GainP, gs.any GainP.bad = false → sumOf GainP.realT gs = sumOf GainP.p gs - sumOf GainP.c gs + sumOf GainP.df gs
  | [], _ => rfl
  | x :: r, h => by
    rw [List.any_cons, Bool.or_eq_false_iff] at h
    have ih := tt_real r h.2
    have hx : x.err = 0 := by have := h.1; unfold GainP.bad at this; simpa using this
    have e : ∀ (f : GainP → List UInt8), sumOf f (x :: r) = val (f x) + sumOf f r := fun f => by simp [sumOf]
    have hv : val x.realT = val x.p - val x.c + val x.df := by unfold GainP.realT; rw [if_pos hx, val_canon]; rfl
    rw [e, e, e, e, ih, hv]
    omega
theorem tt_any {gs : List GainP} {p : GainP → Bool} (h : gs.any GainP.bad = false) : (gs.filter p).any GainP.bad = false := by
  rw [List.any_eq_false] at h ⊢
  exact fun x hx => h x (List.mem_filter.1 hx).1
theorem tt_serr {gs : List GainP} {m : Int} (h : gs.any GainP.bad = false) (hb : bad m = false) : splitErr gs m = 0 := by
  unfold splitErr; rw [h, hb]; rfl
theorem tt_list {gs : List GainP} {m : Int} (h : splitErr gs m = 0) :
    termList gs m = [([112, 114, 111, 99, 101, 101, 100, 115], canon (sumOf GainP.p gs)), ([99, 111, 115, 116], canon (sumOf GainP.c gs)), ([108, 111, 110, 103, 112, 114, 111, 99, 101, 101, 100, 115], canon (sumOf GainP.p (gs.filter (GainP.long m)))), ([108, 111, 110, 103, 99, 111, 115, 116], canon (sumOf GainP.c (gs.filter (GainP.long m))))] := by
  unfold termList splitRes; rw [if_pos h, if_pos h]
def nPr : List UInt8 := [112, 114, 111, 99, 101, 101, 100, 115]
def nCo : List UInt8 := [99, 111, 115, 116]
def nLp : List UInt8 := [108, 111, 110, 103, 112, 114, 111, 99, 101, 101, 100, 115]
def nLc : List UInt8 := [108, 111, 110, 103, 99, 111, 115, 116]
theorem tt_am {gs : List GainP} {m : Int} (h : splitErr gs m = 0) : amountOf (termList gs m) nPr = canon (sumOf GainP.p gs) ∧ amountOf (termList gs m) nCo = canon (sumOf GainP.c gs) ∧ amountOf (termList gs m) nLp = canon (sumOf GainP.p (gs.filter (GainP.long m))) ∧ amountOf (termList gs m) nLc = canon (sumOf GainP.c (gs.filter (GainP.long m))) := by
  rw [tt_list h]
  refine ⟨?_, ?_, ?_, ?_⟩ <;> simp [amountOf, nPr, nCo, nLp, nLc]
def term4 (n : List UInt8) : Prop := n = nPr ∨ n = nCo ∨ n = nLp ∨ n = nLc
theorem tt_add {gs ms : List GainP} {m : Int} (h1 : splitErr gs m = 0) (h2 : splitErr ms m = 0) (h3 : splitErr (gs ++ ms) m = 0) {n : List UInt8} (hn : term4 n) :
    canon (val (amountOf (termList gs m) n) + val (amountOf (termList ms m) n)) = amountOf (termList (gs ++ ms) m) n := by
  obtain ⟨a1, a2, a3, a4⟩ := tt_am h1
  obtain ⟨b1, b2, b3, b4⟩ := tt_am h2
  obtain ⟨c1, c2, c3, c4⟩ := tt_am h3
  rcases hn with rfl | rfl | rfl | rfl
  · rw [a1, b1, c1, val_canon, val_canon, tt_append]
  · rw [a2, b2, c2, val_canon, val_canon, tt_append]
  · rw [a3, b3, c3, val_canon, val_canon, List.filter_append, tt_append]
  · rw [a4, b4, c4, val_canon, val_canon, List.filter_append, tt_append]
theorem tt_amlen {gs : List GainP} {m : Int} (h : splitErr gs m = 0) (hs : ∀ x, x ∈ gs → x.small) (hl : gs.length ≤ 100) {n : List UInt8} (hn : term4 n) : (amountOf (termList gs m) n).length ≤ 3000 := by
  obtain ⟨a1, a2, a3, a4⟩ := tt_am h
  have hp : ∀ x, x ∈ gs → x.p.length ≤ 2000 := fun x hx => by have := (hs x hx).2.2.2.2.1; omega
  have hc : ∀ x, x ∈ gs → x.c.length ≤ 2000 := fun x hx => by have := (hs x hx).2.2.2.2.2.1; omega
  have hf := List.length_filter_le (GainP.long m) gs
  have k1 := tt_len hp
  have k2 := tt_len hc
  have k3 := tt_len (gs := gs.filter (GainP.long m)) (f := GainP.p) (fun x hx => hp x (List.mem_filter.1 hx).1)
  have k4 := tt_len (gs := gs.filter (GainP.long m)) (f := GainP.c) (fun x hx => hc x (List.mem_filter.1 hx).1)
  rcases hn with rfl | rfl | rfl | rfl
  · rw [a1]; omega
  · rw [a2]; omega
  · rw [a3]; omega
  · rw [a4]; omega
theorem tt_fine {gs : List GainP} (hf : fine gs = true) : ggreats gs = false ∧ gs.any GainP.bad = false := by
  unfold fine at hf
  cases h1 : ggreats gs <;> cases h2 : gs.any GainP.bad <;> simp [h1, h2] at hf
  exact ⟨rfl, rfl⟩
theorem terms_ok (gs : List GainP) (m : Int) (a : Option Addr) (c : Nat) (w : World) (hE : Env w) (hn : gs.length ≤ 1000) (hw : Gains w a gs) (hs : ∀ x, x ∈ gs → x.small) (h0 : splitErr gs m = 0) :
    Calls Tryz.prog 25 #[.slice a gs.length c, .int .i64 m] w fun e w' => (∃ a1 c1, e = .returned (.tuple #[.slice a1 4 c1, .int .i64 0]) ∧ Terms w' a1 (termList gs m)) ∧ Below w.heap.size w w' := by
  refine (terms_any gs m a c w hE hn hw hs).mono ?_
  rintro e w1 ⟨⟨a1, c1, rfl, R⟩, hb⟩
  rw [show termLen gs m = 4 by unfold termLen; rw [if_pos h0], h0]
  exact ⟨⟨a1, c1, rfl, terms_of_row R⟩, hb⟩
theorem amount_ok (ts : List (List UInt8 × List UInt8)) (n : List UInt8) (a : Option Addr) (c : Nat) (w : World) (h4 : ts.length = 4) (hw : Terms w a ts) :
    Calls Tryz.prog 31 #[.slice a 4 c, .string ⟨n.toArray⟩] w fun e w' => e = .returned (.string ⟨(amountOf ts n).toArray⟩) ∧ Below w.heap.size w w' := by
  have := amount_any ts n a c w (by omega) hw
  rw [h4] at this
  exact this

theorem tt5 {w w' : World} {a b c d e : Option Addr} {A B C D E : List (List UInt8 × List UInt8)} (h : (((Terms w a A ∧ Terms w b B) ∧ Terms w c C) ∧ Terms w d D) ∧ Terms w e E) (hb : Below w.heap.size w w') : (((Terms w' a A ∧ Terms w' b B) ∧ Terms w' c C) ∧ Terms w' d D) ∧ Terms w' e E :=
  ⟨⟨⟨⟨h.1.1.1.1.below hb, h.1.1.1.2.below hb⟩, h.1.1.2.below hb⟩, h.1.2.below hb⟩, h.2.below hb⟩
set_option maxHeartbeats 8000000 in
set_option maxRecDepth 100000 in
theorem holdingTermsLaw_any (gs ms : List GainP) (m8 : Int) (a a' : Option Addr) (c c' : Nat) (w : World) (hE : Env w) (hn : gs.length ≤ 9223372036854775807) (_hc : gs.length ≤ c) (hw : Gains w a gs) (hs : ∀ x, x ∈ gs → x.fits) (hn' : ms.length ≤ 9223372036854775807) (_hc' : ms.length ≤ c') (hw' : Gains w a' ms) (hs' : ∀ x, x ∈ ms → x.fits) (hm0 : 0 ≤ m8) (hm1 : m8 ≤ 255) :
    Calls Tryz.prog 7 #[.slice a gs.length c, .slice a' ms.length c', .int .u8 m8] w fun e w' => e = .returned (.bool true) ∧ Below w.heap.size w w' := by
  have hm : Hid (0 ≤ m8 % 121 ∧ m8 % 121 ≤ 120) := by show _ ∧ _; omega
  have HA := Lib.hid awake_any
  have H1 := Lib.hid (fine_any gs a c w hE hn hw hs)
  have H2 := Lib.hid (fun W (hb : Below w.heap.size w W) => fine_any ms a' c' W (hE.below hb) hn' (hw'.below hb) hs')
  have HW := Lib.hid hw
  have HW' := Lib.hid hw'
  have HE := Lib.hid hE
  clear hw hw' hE hs hs'
  go_enter Tryz.func7, Tryz.ntmps7
  go_wp2_with fail
  generalize m8 % 121 = m at *
  refine H1.out.mono ?_
  rintro e w1 ⟨rfl, hb⟩
  have HB := Lib.hid hb
  clear hb H1
  cases hf : fine gs
  case false =>
    go_wp2_with fail
    refine (HA.out _).mono ?_
    rintro e w2 ⟨rfl, hb⟩
    go_wp2
    go_ret
    exact ⟨rfl, below_up HB.out hb⟩
  go_wp2_with fail
  refine (H2.out _ HB.out).mono ?_
  rintro e w2 ⟨rfl, hb⟩
  have HB := Lib.hid (below_up HB.out hb)
  clear hb H2
  cases hf' : fine ms
  case false =>
    go_wp2_with fail
    refine (HA.out _).mono ?_
    rintro e w2 ⟨rfl, hb⟩
    go_wp2
    go_ret
    exact ⟨rfl, below_up HB.out hb⟩
  obtain ⟨hg, hbad⟩ := tt_fine hf
  obtain ⟨hg', hbad'⟩ := tt_fine hf'
  obtain ⟨hsm, hn12⟩ := fine_small hg
  obtain ⟨hsm', hn12'⟩ := fine_small hg'
  have hbm : bad m = false := by have := hm.out; unfold bad; simp; omega
  have e1 := tt_serr hbad hbm
  have e2 := tt_serr hbad' hbm
  have hbc : (gs ++ ms).any GainP.bad = false := by rw [List.any_append, hbad, hbad']; rfl
  have e3 := tt_serr hbc hbm
  have e4 := tt_serr (tt_any (p := GainP.long m) hbad) hbm
  have e5 := tt_serr (tt_any (p := fun x => !x.long m) hbad) hbm
  have hsmL : ∀ x, x ∈ gs.filter (GainP.long m) → x.small := fun x hx => hsm x (List.mem_filter.1 hx).1
  have hsmS : ∀ x, x ∈ (gs.filter fun x => !x.long m) → x.small := fun x hx => hsm x (List.mem_filter.1 hx).1
  have hlL := List.length_filter_le (GainP.long m) gs
  have hlS := List.length_filter_le (fun x => !GainP.long m x) gs
  have hlC : (gs ++ ms).length ≤ 24 := by rw [List.length_append]; omega
  have hsmC : ∀ x, x ∈ gs ++ ms → x.small := fun x hx => (List.mem_append.1 hx).elim (hsm x) (hsm' x)
  have hsr : splitRes gs m = (gs.filter (GainP.long m), gs.filter fun x => !x.long m) := by unfold splitRes; rw [if_pos e1]
  have hss : sumsRes gs m = (canon (sumOf GainP.realT (gs.filter (GainP.long m))), canon (sumOf GainP.realT (gs.filter fun x => !x.long m))) := by unfold sumsRes; rw [if_pos e1, hsr]
  -- contracts
  have C1 := Lib.hid (fun W (hb : Below w.heap.size w W) => split_any gs m a c W (HE.out.below hb) (by omega) (HW.out.below hb) hsm)
  rw [hsr, e1] at C1
  have C2 := Lib.hid (fun W (hb : Below w.heap.size w W) => terms_ok gs m a c W (HE.out.below hb) (by omega) (HW.out.below hb) hsm e1)
  have C3 := Lib.hid (fun W (hb : Below w.heap.size w W) => terms_ok ms m a' c' W (HE.out.below hb) (by omega) (HW'.out.below hb) hsm' e2)
  have C4 := Lib.hid (fun W b T (hK : Box W b #[.slice a gs.length c, .slice a' ms.length c'] T) (hb : Below w.heap.size w W) => concatGain_any gs ms a a' c c' b T W (by omega) (by omega) hK (HW.out.below hb) (HW'.out.below hb))
  have C5 := Lib.hid (fun W a c h (hb : Below w.heap.size w W) => terms_ok (gs ++ ms) m a c W (HE.out.below hb) (by omega) h hsmC e3)
  have C6 := Lib.hid (fun W a c h (hb : Below w.heap.size w W) => terms_ok (gs.filter (GainP.long m)) m a c W (HE.out.below hb) (by omega) h hsmL e4)
  have C7 := Lib.hid (fun W a c h (hb : Below w.heap.size w W) => terms_ok (gs.filter fun x => !x.long m) m a c W (HE.out.below hb) (by omega) h hsmS e5)
  have C8 := Lib.hid (fun W (hb : Below w.heap.size w W) => sums_any gs m a c W (HE.out.below hb) (by omega) (HW.out.below hb) hsm)
  rw [hss, e1] at C8
  have C9 := Lib.hid (fun W (hb : Below w.heap.size w W) => total_ok gs a c W (HE.out.below hb) (by omega) (HW.out.below hb) hsm hbad)
  -- the amounts
  have A0 : Hid (∀ n, term4 n → ∀ W, Env W → Calls Tryz.prog 15 #[.string ⟨(amountOf (termList gs m) n).toArray⟩, .string ⟨(amountOf (termList ms m) n).toArray⟩] W fun e w' => e = .returned (.string ⟨(amountOf (termList (gs ++ ms) m) n).toArray⟩) ∧ Below W.heap.size W w') := by
    intro n hn4 W hW
    have l1 := tt_amlen e1 hsm (by omega) hn4
    have l2 := tt_amlen e2 hsm' (by omega) hn4
    have := Add_any (amountOf (termList gs m) n) (amountOf (termList ms m) n) W hW (by omega) (by omega)
    rw [tt_add e1 e2 e3 hn4] at this
    exact this
  have hL4 : ∀ X, splitErr X m = 0 → (termList X m).length = 4 := fun X h => by rw [tt_list h]; rfl
  have B1 := Lib.hid (fun n W a c h => amount_ok (termList gs m) n a c W (hL4 _ e1) h)
  have B2 := Lib.hid (fun n W a c h => amount_ok (termList ms m) n a c W (hL4 _ e2) h)
  have B3 := Lib.hid (fun n W a c h => amount_ok (termList (gs ++ ms) m) n a c W (hL4 _ e3) h)
  have B4 := Lib.hid (fun n W a c h => amount_ok (termList (gs.filter (GainP.long m)) m) n a c W (hL4 _ e4) h)
  have B5 := Lib.hid (fun n W a c h => amount_ok (termList (gs.filter fun x => !x.long m) m) n a c W (hL4 _ e5) h)
  have N1 : Hid (∃ v0 v1 v2 v3, termList gs m = [(nPr, v0), (nCo, v1), (nLp, v2), (nLc, v3)]) := ⟨_, _, _, _, tt_list e1⟩
  have hfp : ∀ x, x ∈ gs → x.p.length ≤ 2000 := fun x hx => by have := (hsm x hx).2.2.2.2.1; omega
  have hfc : ∀ x, x ∈ gs → x.c.length ≤ 2000 := fun x hx => by have := (hsm x hx).2.2.2.2.2.1; omega
  have hfd : ∀ x, x ∈ gs → x.df.length ≤ 2000 := fun x hx => by have := (hsm x hx).2.2.2.2.2.2.1; omega
  have kp := tt_len hfp
  have kc := tt_len hfc
  have kd := tt_len hfd
  have k1 := tt_len (gs := gs.filter (GainP.long m)) (f := GainP.realT) (fun x hx => realT_len (hsmL x hx))
  have k2 := tt_len (gs := gs.filter fun x => !x.long m) (f := GainP.realT) (fun x hx => realT_len (hsmS x hx))
  have ks := sub_len (l := canon (sumOf GainP.p gs)) (m := canon (sumOf GainP.c gs)) (K := 3000) (by omega) (by omega)
  rw [val_canon, val_canon] at ks
  have D1 := Lib.hid (fun W hW => Sub_any (canon (sumOf GainP.p gs)) (canon (sumOf GainP.c gs)) W hW (by omega) (by omega))
  have D2 := Lib.hid (fun W hW => Add_any (canon (sumOf GainP.p gs - sumOf GainP.c gs)) (canon (sumOf GainP.df gs)) W hW (by omega) (by omega))
  have D3 := Lib.hid (fun W hW => Add_any (canon (sumOf GainP.realT (gs.filter (GainP.long m)))) (canon (sumOf GainP.realT (gs.filter fun x => !x.long m))) W hW (by omega) (by omega))
  rw [val_canon, val_canon] at D1
  rw [val_canon, val_canon, ← tt_real gs hbad] at D2
  rw [val_canon, val_canon, tt_filter] at D3
  obtain ⟨q1, q2, _, _⟩ := tt_am e1
  rw [← q1, ← q2] at D1
  obtain ⟨x1, x2, x3, x4⟩ := tt_am e4
  rw [List.filter_filter] at x3 x4
  simp only [Bool.and_self] at x3 x4
  have X1 := Lib.hid (x1.trans x3.symm)
  have X2 := Lib.hid (x2.trans x4.symm)
  obtain ⟨_, _, y3, y4⟩ := tt_am e5
  have hnil : (gs.filter fun x => !x.long m).filter (GainP.long m) = [] := by
    rw [List.filter_filter, List.filter_eq_nil_iff]; intro x _; cases GainP.long m x <;> simp
  rw [hnil, show sumOf GainP.p [] = 0 from rfl, canon_zero] at y3
  rw [hnil, show sumOf GainP.c [] = 0 from rfl, canon_zero] at y4
  have Y1 := Lib.hid y3
  have Y2 := Lib.hid y4
  clear q1 q2 x1 x2 x3 x4 y3 y4 hnil kp kc kd k1 k2 ks hfp hfc hfd hL4 hss hsr hsmC hlC hlL hlS hsmL hsmS e1 e2 e3 e4 e5 hbc hbm hsm hsm' hg hg' hbad hbad' hf hf'
  generalize termList gs m = te at *
  generalize termList ms m = tm at *
  generalize termList (gs ++ ms) m = tc at *
  generalize gs ++ ms = cs at *
  generalize canon (sumOf GainP.realT gs) = gain at *
  generalize canon (sumOf GainP.realT (gs.filter (GainP.long m))) = u1 at *
  generalize canon (sumOf GainP.realT (gs.filter fun x => !x.long m)) = u2 at *
  generalize canon (sumOf GainP.p gs - sumOf GainP.c gs) = d1 at *
  generalize canon (sumOf GainP.p gs) = s1 at *
  generalize canon (sumOf GainP.c gs) = s2 at *
  generalize canon (sumOf GainP.df gs) = s3 at *
  generalize termList (gs.filter (GainP.long m)) m = tx at *
  generalize termList (gs.filter fun x => !x.long m) m = ty at *
  generalize gs.filter (GainP.long m) = L1 at *
  generalize (gs.filter fun x => !x.long m) = L2 at *
  simp only at C1 C8
  go_wp2_with fail
  refine (C1.out _ HB.out).mono ?_
  rintro e w3 ⟨⟨a1, c1, a2, c2, rfl, G1, G2⟩, hb⟩
  have HB := Lib.hid (below_up HB.out hb)
  have G := Lib.hid (And.intro G1 G2)
  clear hb G1 G2 C1
  go_wp2_with fail
  refine (C2.out _ HB.out).mono ?_
  rintro e w4 ⟨⟨ta, ka, rfl, T1⟩, hb⟩
  have HB := Lib.hid (below_up HB.out hb)
  have G := Lib.hid (And.intro (G.out.1.below hb) (G.out.2.below hb))
  have T := Lib.hid T1
  clear hb C2 T1
  go_wp2_with fail
  refine (C3.out _ HB.out).mono ?_
  rintro e w5 ⟨⟨tb, kb, rfl, T1⟩, hb⟩
  have HB := Lib.hid (below_up HB.out hb)
  have G := Lib.hid (And.intro (G.out.1.below hb) (G.out.2.below hb))
  have T := Lib.hid (And.intro (T.out.below hb) T1)
  clear hb C3 T1
  go_wp2_with fail
  have HB := Lib.hid (below_up HB.out (below_alloc w5 (.cells #[.slice a gs.length c, .slice a' ms.length c'] 44)))
  have G := Lib.hid (And.intro (G.out.1.below (below_alloc w5 (.cells #[.slice a gs.length c, .slice a' ms.length c'] 44))) (G.out.2.below (below_alloc w5 (.cells #[.slice a gs.length c, .slice a' ms.length c'] 44))))
  have T := Lib.hid (And.intro (T.out.1.below (below_alloc w5 (.cells #[.slice a gs.length c, .slice a' ms.length c'] 44))) (T.out.2.below (below_alloc w5 (.cells #[.slice a gs.length c, .slice a' ms.length c'] 44))))
  refine (C4.out _ _ _ (Box.new0 w5 #[.slice a gs.length c, .slice a' ms.length c'] 44) HB.out).mono ?_
  generalize w5.alloc _ = w6 at *
  rintro e w7 ⟨⟨a3, c3, rfl, G3⟩, hb⟩
  have HB := Lib.hid (below_up HB.out hb)
  have G := Lib.hid (And.intro (G.out.1.below hb) (G.out.2.below hb))
  have T := Lib.hid (And.intro (T.out.1.below hb) (T.out.2.below hb))
  have G3 := Lib.hid G3
  clear hb C4
  go_wp2_with fail
  refine (C5.out _ _ _ G3.out HB.out).mono ?_
  rintro e w8 ⟨⟨tcc, kcc, rfl, T1⟩, hb⟩
  have HB := Lib.hid (below_up HB.out hb)
  have G := Lib.hid (And.intro (G.out.1.below hb) (G.out.2.below hb))
  have T := Lib.hid (And.intro (And.intro (T.out.1.below hb) (T.out.2.below hb)) T1)
  clear hb C5 T1 G3
  go_wp2_with fail
  refine (C6.out _ _ _ G.out.1 HB.out).mono ?_
  rintro e w9 ⟨⟨tdx, kdx, rfl, T1⟩, hb⟩
  have HB := Lib.hid (below_up HB.out hb)
  have G := Lib.hid (G.out.2.below hb)
  have T := Lib.hid (And.intro (And.intro (And.intro (T.out.1.1.below hb) (T.out.1.2.below hb)) (T.out.2.below hb)) T1)
  clear hb C6 T1
  go_wp2_with fail
  refine (C7.out _ _ _ G.out HB.out).mono ?_
  rintro e w10 ⟨⟨tdy, kdy, rfl, T1⟩, hb⟩
  have HB := Lib.hid (below_up HB.out hb)
  have T := Lib.hid (And.intro (And.intro (And.intro (And.intro (T.out.1.1.1.below hb) (T.out.1.1.2.below hb)) (T.out.1.2.below hb)) (T.out.2.below hb)) T1)
  clear hb C7 T1 G
  go_wp2_with fail
  refine (C8.out _ HB.out).mono ?_
  rintro e w11 ⟨rfl, hb⟩
  have HB := Lib.hid (below_up HB.out hb)
  have T := Lib.hid (tt5 T.out hb)
  clear hb C8
  go_wp2_with fail
  refine (C9.out _ HB.out).mono ?_
  rintro e w12 ⟨rfl, hb⟩
  have HB := Lib.hid (below_up HB.out hb)
  have T := Lib.hid (tt5 T.out hb)
  clear hb C9
  go_wp2_with fail
  have KN := Lib.hid (Box.new0 w12 #[.string ⟨nPr.toArray⟩, .string ⟨nCo.toArray⟩, .string ⟨nLp.toArray⟩, .string ⟨nLc.toArray⟩] 9)
  have HB := Lib.hid (below_up HB.out (below_alloc w12 (.cells #[.string ⟨nPr.toArray⟩, .string ⟨nCo.toArray⟩, .string ⟨nLp.toArray⟩, .string ⟨nLc.toArray⟩] 9)))
  have T := Lib.hid (tt5 T.out (below_alloc w12 (.cells #[.string ⟨nPr.toArray⟩, .string ⟨nCo.toArray⟩, .string ⟨nLp.toArray⟩, .string ⟨nLc.toArray⟩] 9)))
  go_loopw [134] (fun i W => Hid (Below w.heap.size w W) ∧ Hid (Box W w12.heap.size #[.string ⟨nPr.toArray⟩, .string ⟨nCo.toArray⟩, .string ⟨nLp.toArray⟩, .string ⟨nLc.toArray⟩] 9) ∧ Hid ((((Terms W ta te ∧ Terms W tb tm) ∧ Terms W tcc tc) ∧ Terms W tdx tx) ∧ Terms W tdy ty) ∧ ∃ k : Nat, k ≤ 4 ∧ i = .int .i64 (k : Int)) (fun i _ => 4 - (intOf i).toNat)
  case atStart => exact ⟨HB, KN, T, 0, by omega, rfl⟩
  case round =>
    clear HB KN T
    obtain ⟨HB, KN, T, k, hk, rfl⟩ := hrel
    by_cases hlt : k < 4
    · obtain ⟨n, v, hn4, kc, hte⟩ : ∃ n v, term4 n ∧ wr.cell? ⟨w12.heap.size, k, none⟩ = some (.string ⟨n.toArray⟩) ∧ te[k]? = some (n, v) := by
        obtain ⟨v0, v1, v2, v3, hv⟩ := N1.out
        rw [hv]
        have : k = 0 ∨ k = 1 ∨ k = 2 ∨ k = 3 := by omega
        rcases this with rfl | rfl | rfl | rfl
        · exact ⟨nPr, v0, .inl rfl, KN.out.cell 0, rfl⟩
        · exact ⟨nCo, v1, .inr (.inl rfl), KN.out.cell 1, rfl⟩
        · exact ⟨nLp, v2, .inr (.inr (.inl rfl)), KN.out.cell 2, rfl⟩
        · exact ⟨nLc, v3, .inr (.inr (.inr rfl)), KN.out.cell 3, rfl⟩
      obtain ⟨b, off, ha, k0, _⟩ := T.out.1.1.1.1.addr hte
      subst ha
      simp only at k0
      have hn4 := Lib.hid hn4
      clear hte
      have E1 := Lib.hid (fun W c h => B1.out n W (some ⟨b, off, none⟩) c h)
      have E2 := Lib.hid (fun W c h => B2.out n W tb c h)
      have E3 := Lib.hid (fun W c h => B3.out n W tcc c h)
      have E0 := Lib.hid (A0.out n hn4.out)
      generalize amountOf te n = r1 at *
      generalize amountOf tm n = r2 at *
      generalize amountOf tc n = r3 at *
      go_wp2_with fail
      refine (E1.out _ _ T.out.1.1.1.1).mono ?_
      rintro e wx ⟨rfl, hb⟩
      have HB := Lib.hid (below_up HB.out hb)
      have T := Lib.hid (tt5 T.out hb)
      have KN := Lib.hid (KN.out.below hb)
      clear hb E1 k0 kc
      go_wp2_with fail
      refine (E2.out _ _ T.out.1.1.1.2).mono ?_
      rintro e wx ⟨rfl, hb⟩
      have HB := Lib.hid (below_up HB.out hb)
      have T := Lib.hid (tt5 T.out hb)
      have KN := Lib.hid (KN.out.below hb)
      clear hb E2
      go_wp2_with fail
      refine (E0.out _ (HE.out.below HB.out)).mono ?_
      rintro e wx ⟨rfl, hb⟩
      have HB := Lib.hid (below_up HB.out hb)
      have T := Lib.hid (tt5 T.out hb)
      have KN := Lib.hid (KN.out.below hb)
      clear hb E0
      go_wp2_with fail
      refine (E3.out _ _ T.out.1.1.2).mono ?_
      rintro e wx ⟨rfl, hb⟩
      have HB := Lib.hid (below_up HB.out hb)
      have T := Lib.hid (tt5 T.out hb)
      have KN := Lib.hid (KN.out.below hb)
      clear hb E3
      go_wp2
      go_round
      case rel => exact ⟨HB, KN, T, k + 1, by omega, by go_num⟩
      case measure => simp [intOf]; omega
    · obtain rfl : k = 4 := by omega
      go_wp2_with fail
      refine (B1.out nPr _ _ _ T.out.1.1.1.1).mono ?_
      rintro e wx ⟨rfl, hb⟩
      have HB := Lib.hid (below_up HB.out hb)
      have T := Lib.hid (tt5 T.out hb)
      clear hb
      go_wp2_with fail
      refine (B1.out nCo _ _ _ T.out.1.1.1.1).mono ?_
      rintro e wx ⟨rfl, hb⟩
      have HB := Lib.hid (below_up HB.out hb)
      have T := Lib.hid (tt5 T.out hb)
      clear hb
      go_wp2_with fail
      refine (D1.out _ (HE.out.below HB.out)).mono ?_
      rintro e wx ⟨rfl, hb⟩
      have HB := Lib.hid (below_up HB.out hb)
      have T := Lib.hid (tt5 T.out hb)
      clear hb
      go_wp2_with fail
      refine (D2.out _ (HE.out.below HB.out)).mono ?_
      rintro e wx ⟨rfl, hb⟩
      have HB := Lib.hid (below_up HB.out hb)
      have T := Lib.hid (tt5 T.out hb)
      clear hb
      have X1 := X1.out
      have X2 := X2.out
      have Y1 := Y1.out
      have Y2 := Y2.out
      have F1 := Lib.hid (B4.out nPr)
      have F2 := Lib.hid (B4.out nLp)
      have F3 := Lib.hid (B4.out nCo)
      have F4 := Lib.hid (B4.out nLc)
      have F5 := Lib.hid (B5.out nLp)
      have F6 := Lib.hid (B5.out nLc)
      rw [X1] at F1
      rw [X2] at F3
      rw [Y1] at F5
      rw [Y2] at F6
      clear X1 X2 Y1 Y2
      generalize amountOf tx nLp = r1 at *
      generalize amountOf tx nLc = r2 at *
      go_wp2_with fail
      refine (F1.out _ _ _ T.out.1.2).mono ?_
      rintro e wx ⟨rfl, hb⟩
      have HB := Lib.hid (below_up HB.out hb)
      have T := Lib.hid (tt5 T.out hb)
      clear hb
      go_wp2_with fail
      refine (F2.out _ _ _ T.out.1.2).mono ?_
      rintro e wx ⟨rfl, hb⟩
      have HB := Lib.hid (below_up HB.out hb)
      have T := Lib.hid (tt5 T.out hb)
      clear hb
      go_wp2_with fail
      refine (F3.out _ _ _ T.out.1.2).mono ?_
      rintro e wx ⟨rfl, hb⟩
      have HB := Lib.hid (below_up HB.out hb)
      have T := Lib.hid (tt5 T.out hb)
      clear hb
      go_wp2_with fail
      refine (F4.out _ _ _ T.out.1.2).mono ?_
      rintro e wx ⟨rfl, hb⟩
      have HB := Lib.hid (below_up HB.out hb)
      have T := Lib.hid (tt5 T.out hb)
      clear hb
      go_wp2_with fail
      refine (F5.out _ _ _ T.out.2).mono ?_
      rintro e wx ⟨rfl, hb⟩
      have HB := Lib.hid (below_up HB.out hb)
      have T := Lib.hid (tt5 T.out hb)
      clear hb
      go_wp2_with fail
      refine (F6.out _ _ _ T.out.2).mono ?_
      rintro e wx ⟨rfl, hb⟩
      have HB := Lib.hid (below_up HB.out hb)
      have T := Lib.hid (tt5 T.out hb)
      clear hb
      go_wp2_with fail
      refine (D3.out _ (HE.out.below HB.out)).mono ?_
      rintro e wx ⟨rfl, hb⟩
      have HB := Lib.hid (below_up HB.out hb)
      have T := Lib.hid (tt5 T.out hb)
      clear hb
      go_wp2_with fail
      refine (HA.out _).mono ?_
      rintro e wy ⟨rfl, hb⟩
      go_wp2
      go_ret
      exact ⟨rfl, below_up HB.out hb⟩
end Go.Proofs.YthlpfefckhdpiaaGreatDoor
