/- HoldingTurns: before the day that Turns returns a holding is short, from then on it is long, and with more months it does not turn before; for every two days and two numbers of months; no condition. (The frame is the kit's shell for this statement.) -/
import Derived.Test.YthlpfefckhdpiaaRows
import Derived.WalkKit
import Derived.ProofKit
import Derived.OpenShut
import Derived.Test.YthlpfefckhdpiaaPost
import Derived.Test.YthlpfefckhdpiaaAwake23
namespace Go.Proofs.Ythlpfefckhdpiaa.holdingTurns
open Go.ChangeShapes Go.WideShapes Go.ChangeAt Go.RowKit
set_option linter.unusedVariables false      -- a walk need not use every 'w<i>' (that an integer argument fits its kind)

theorem own : ownKnob Try.prog.godebug = none := by kernel_rfl

/-! ### THE PLAIN LAW -/
theorem long_ok {a c m : Int} (ha : -25567 ≤ a) (hc : c ≤ 84005) (hac : a ≤ c) (h0 : 0 ≤ m) (h1 : m ≤ 120) : longRes a c m = (isLong a c m, 0) := by
  unfold longRes; rw [if_neg (by omega), if_neg (by omega), if_neg (by omega)]
/-- the year of the shifted day does not lie before 1900 -/
theorem year_lo {a m : Int} (ha : -25567 ≤ a) (ha' : a ≤ 84005) (h0 : 0 ≤ m) : 1900 ≤ Cal.shiftYear (a + 25567) m := by
  obtain ⟨⟨a1, a2, a3, a4, a5, a6⟩, e⟩ := Cal.civ_spec (n := a + 25567) (by omega) (by omega)
  unfold Cal.shiftYear Cal.months12; omega
theorem add_in {a m : Int} (ha : -25567 ≤ a) (ha' : a ≤ 84005) (h0 : 0 ≤ m) (h1 : m ≤ 120) :
    (2199 < Cal.shiftYear (a + 25567) m ∧ Cal.add a m = (0, 13)) ∨ (Cal.shiftYear (a + 25567) m ≤ 2199 ∧ Cal.add a m = (Cal.shift (a + 25567) m - 25567, 0)) := by
  have := year_lo ha ha' h0
  rcases Int.lt_or_le 2199 (Cal.shiftYear (a + 25567) m) with h | h
  · exact .inl ⟨h, Cal.add_year ha ha' (by omega) (by omega) (.inr h)⟩
  · exact .inr ⟨h, Cal.add_ok ha ha' (by omega) (by omega) this h⟩
/-- what the law asks of the numbers -/
theorem plain {a c m n : Int} (ha : -25567 ≤ a) (hc : c ≤ 84005) (hac : a ≤ c) (h0 : 0 ≤ m) (hmn : m ≤ n) (h1 : n ≤ 120) :
    ((turnsRes a m).2 = 13 ∧ isLong a c m = false ∧ (turnsRes a n).2 = 13) ∨
    ((turnsRes a m).2 = 0 ∧ isLong a c m = decide ((turnsRes a m).1 ≤ c) ∧ a < (turnsRes a m).1 ∧ ((turnsRes a n).2 = 13 ∨ ((turnsRes a n).2 = 0 ∧ (turnsRes a m).1 ≤ (turnsRes a n).1))) := by
  have lo := year_lo ha (by omega) h0
  have hz := Cal.shift_zero (n := a + 25567) (by omega) (by omega)
  have hv := (Cal.civ_spec (n := a + 25567) (by omega) (by omega)).1
  have ht : ∀ k, 0 ≤ k → k ≤ 120 → ((2199 < Cal.shiftYear (a + 25567) k ∨ Cal.shift (a + 25567) k - 25567 = 84005) ∧ turnsRes a k = (0, 13)) ∨
      (Cal.shiftYear (a + 25567) k ≤ 2199 ∧ Cal.shift (a + 25567) k - 25567 ≠ 84005 ∧ turnsRes a k = (Cal.shift (a + 25567) k - 25567 + 1, 0)) := by
    intro k k0 k1
    rcases add_in ha (by omega) k0 k1 with ⟨g, e⟩ | ⟨g, e⟩
    · refine .inl ⟨.inl g, ?_⟩
      unfold turnsRes; rw [if_neg (by omega), if_pos (by rw [e]; simp)]
    · by_cases hx : Cal.shift (a + 25567) k - 25567 = 84005
      · refine .inl ⟨.inr hx, ?_⟩
        unfold turnsRes; rw [if_neg (by omega), if_pos (by rw [e]; simp; omega)]
      · refine .inr ⟨g, hx, ?_⟩
        unfold turnsRes; rw [if_neg (by omega), if_neg (by rw [e]; simp; omega), e]
  have mono := fun h => Cal.shift_mono (n := a + 25567) (k := m) (k' := n) (by omega) (by omega) hmn lo h
  have mono0 := fun h => Cal.shift_mono (n := a + 25567) (k := 0) (k' := m) (by omega) (by omega) h0 (by rw [hz.1]; exact hv.1) h
  have top : ∀ k, 0 ≤ k → Cal.shiftYear (a + 25567) k ≤ 2199 → Cal.shift (a + 25567) k - 25567 ≤ 84005 := by
    intro k k0 hk
    have := Cal.num_range (Cal.shift_valid (n := a + 25567) (k := k) (by omega) (by omega) (year_lo ha (by omega) k0) hk)
    unfold Cal.shift; omega
  rcases ht m h0 (by omega) with ⟨g, e⟩ | ⟨g, g2, e⟩
  · refine .inl ⟨by rw [e], ?_, ?_⟩
    · unfold isLong
      rcases add_in ha (by omega) h0 (by omega) with ⟨_, e2⟩ | ⟨g1, e2⟩
      · rw [e2]; simp
      · rw [e2]; simp; omega
    · rcases ht n (by omega) h1 with ⟨_, e2⟩ | ⟨g1, g3, e2⟩
      · rw [e2]
      · have := mono g1
        have := top n (by omega) g1
        omega
  · refine .inr ⟨by rw [e], ?_, ?_, ?_⟩
    · unfold isLong
      rcases add_in ha (by omega) h0 (by omega) with ⟨g1, e2⟩ | ⟨g1, e2⟩
      · omega
      · rw [e2, e]; simp; omega
    · rw [e]; have := mono0 g; rw [hz.2] at this; show a < _; omega
    · rcases ht n (by omega) h1 with ⟨_, e2⟩ | ⟨g1, g3, e2⟩
      · exact .inl (by rw [e2])
      · refine .inr ⟨by rw [e2], ?_⟩
        rw [e, e2]; have := mono g1; show _ + 1 ≤ _ + 1; omega

/-! ### THE WALK -/
set_option maxHeartbeats 2000000 in
theorem walk_in (a c x y m n : Int) (w : World) (hx0 : 0 ≤ x) (hx1 : x ≤ 255) (hy0 : 0 ≤ y) (hy1 : y ≤ 255) (hm : m = x % 121) (hn : n = min 120 (m + y % 50)) (ha : -25567 ≤ a) (hc : c ≤ 84005) (hac : a ≤ c) :
    Calls Try.prog 4 #[.int .i64 a, .int .i64 c, .int .u8 x, .int .u8 y] w fun e w' => e = .returned (.bool true) ∧ Below w.heap.size w w' := by
  have hp := plain (m := m) (n := n) ha hc hac (by omega) (by omega) (by omega)
  have h1 := fun W => Turns_any a m W
  have h2 := fun W => Long_any a c m W
  have h3 := fun W => Turns_any a n W
  rw [long_ok ha hc hac (by omega) (by omega)] at h2
  generalize (turnsRes a m).1 = d at *
  generalize (turnsRes a m).2 = e1 at *
  generalize (turnsRes a n).1 = l at *
  generalize (turnsRes a n).2 = g at *
  generalize isLong a c m = is at *
  dsimp only at h2
  rw [hm] at h1 h2
  have H1 := Lib.hid h1
  have H2 := Lib.hid h2
  have HN := Lib.hid hn
  have HM := Lib.hid hm
  have H3 := Lib.hid h3
  clear h1 h2 h3 hn hm
  have hq : ∀ q : Int, q = n → ∀ W, Calls Try.prog 7 #[.int .i64 a, .int .i64 q] W fun e w' => e = .returned (.tuple #[.int .i64 l, .int .i64 g]) ∧ Below W.heap.size W w' := by
    rintro q rfl W; exact H3.out W
  have HQ := Lib.hid hq
  clear hq H3
  rcases hp with ⟨rfl, rfl, rfl⟩ | ⟨rfl, hi, hd, hg⟩
  · go_enter Try.func4, Try.ntmps4
    go_wp2_with fail
    all_goals
      refine (H1.out _).mono ?_
      rintro e w1 ⟨rfl, hb1⟩
      go_wp2_with fail
      refine (H2.out _).mono ?_
      rintro e w2 ⟨rfl, hb2⟩
      go_wp2_with fail
      refine (HQ.out _ (by have := HN.out; have := HM.out; omega) _).mono ?_
      rintro e w3 ⟨rfl, hb3⟩
      go_wp2_with fail
      refine (awake_any _).mono ?_
      rintro e w4 ⟨rfl, hb4⟩
      go_wp2
      go_ret
      exact ⟨rfl, below_up (below_up (below_up hb1 hb2) hb3) hb4⟩
  · have hi' : (is == decide (d ≤ c)) = true := by rw [hi]; simp
    clear hi
    rcases hg with rfl | ⟨rfl, hg⟩
    all_goals
      go_enter Try.func4, Try.ntmps4
      go_wp2_with fail
      all_goals
        refine (H1.out _).mono ?_
        rintro e w1 ⟨rfl, hb1⟩
        go_wp2_with fail
        refine (H2.out _).mono ?_
        rintro e w2 ⟨rfl, hb2⟩
        go_wp2_with fail
        refine (HQ.out _ (by have := HN.out; have := HM.out; omega) _).mono ?_
        rintro e w3 ⟨rfl, hb3⟩
        go_wp2_with fail
        refine (awake_any _).mono ?_
        rintro e w4 ⟨rfl, hb4⟩
        go_wp2
        go_ret
        exact ⟨rfl, below_up (below_up (below_up hb1 hb2) hb3) hb4⟩

theorem walk_out (a c x y : Int) (w : World) (hx0 : 0 ≤ x) (hx1 : x ≤ 255) (hy0 : 0 ≤ y) (hy1 : y ≤ 255) (h : a < -25567 ∨ 84005 < c ∨ c < a) :
    Calls Try.prog 4 #[.int .i64 a, .int .i64 c, .int .u8 x, .int .u8 y] w fun e w' => e = .returned (.bool true) ∧ Below w.heap.size w w' := by
  have hcs : a < -25567 ∨ (-25567 ≤ a ∧ 84005 < c) ∨ (-25567 ≤ a ∧ c ≤ 84005 ∧ c < a) := by omega
  clear h
  rcases hcs with h | ⟨h1, h2⟩ | ⟨h1, h2, h3⟩
  all_goals
    go_enter Try.func4, Try.ntmps4
    go_wp2_with (go_at_call 9; refine (awake_any _).mono ?_; rintro e w4 ⟨rfl, hb4⟩)
    all_goals
      go_ret
      exact ⟨rfl, hb4⟩

theorem u8_bd {x : Int} (h : (Lit.int .u8 x).wf = true) : 0 ≤ x ∧ x ≤ 255 := bounds_u8 h

theorem walk (a0 : Int) (a1 : Int) (a2 : Int) (a3 : Int) (w2 : (Lit.int .u8 a2).wf = true) (w3 : (Lit.int .u8 a3).wf = true) (w : World) :
    Calls Try.prog 4 #[.int .i64 a0, .int .i64 a1, .int .u8 a2, .int .u8 a3] w fun e w' => e = .returned (.bool true) ∧ Below w.heap.size w w' := by
  have b2 := u8_bd w2
  have b3 := u8_bd w3
  by_cases h : a0 < -25567 ∨ 84005 < a1 ∨ a1 < a0
  · exact walk_out a0 a1 a2 a3 w b2.1 b2.2 b3.1 b3.2 h
  · exact walk_in a0 a1 a2 a3 _ _ w b2.1 b2.2 b3.1 b3.2 rfl rfl (by omega) (by omega) (by omega)

/-! ### THE ROW's STEP -/
set_option maxRecDepth 100000 in
theorem lifted (os : Os) (started : os.Started) (H : Type) (enc : TypeId × Value → H) :
    ReturnsInHanded {} Try.checked os 4 .any (Rows.holdingTurnsSpec.pre6 enc Try.prog Try.f4 Rows.holdingTurnsRow.domain false) (Rows.holdingTurnsSpec.post enc Try.prog Try.f4 false true false false) := by
  refine returnsInHanded_of_change (C := Try.checked) own started (by kernel_rfl) Try.func4
    (ChangeSpec.witness6 (enc := enc) (C := Try.checked) false ⟨#[], #[.int .i64 0, .int .i64 0, .int .u8 0, .int .u8 0], []⟩ 8 (by kernel_rfl) (by kernel_rfl) (by kernel_rfl) (by kernel_rfl)) ?_
  intro W base args ds gs before hval0 hW hcnd _
  have hval : ∀ (j : Nat) t v, Try.f4.params[j]? = some t → args[j]? = some v → Value.okWide Try.prog W .any base t v := hval0
  have hW' := hW
  obtain ⟨p, q, hA0, hV, rfl, hfz, hnd⟩ := hW
  have hA : DataW.TrodAll enc Try.prog W 0 (fun _ => true) true Try.f4.params.toList args.toList ds p := hA0
  rw [Try.params4] at hA hval
  obtain ⟨v0, vs0, d0, ds0, p0, q0, hargs, rfl, rfl, h0, r0⟩ := trodAll_cons hA
  obtain ⟨v1, vs1, d1, ds1, p1, q1, rfl, rfl, rfl, h1, r1⟩ := trodAll_cons r0
  obtain ⟨v2, vs2, d2, ds2, p2, q2, rfl, rfl, rfl, h2, r2⟩ := trodAll_cons r1
  obtain ⟨v3, vs3, d3, ds3, p3, q3, rfl, rfl, rfl, h3, r3⟩ := trodAll_cons r2
  obtain ⟨rfl, rfl, rfl⟩ := trodAll_nil r3
  obtain rfl : args = #[v0, v1, v2, v3] := by cases args; simp_all
  obtain ⟨rfl, rfl⟩ := trodVars_none hV
  obtain ⟨a0, rfl, rfl, rfl, w0⟩ := open_int Try.underlying22 (hval 0 22 v0 rfl rfl) h0
  obtain ⟨a1, rfl, rfl, rfl, w1⟩ := open_int Try.underlying22 (hval 1 22 v1 rfl rfl) h1
  obtain ⟨a2, rfl, rfl, rfl, w2⟩ := open_int Try.underlying5 (hval 2 5 v2 rfl rfl) h2
  obtain ⟨a3, rfl, rfl, rfl, w3⟩ := open_int Try.underlying5 (hval 3 5 v3 rfl rfl) h3
  clear hA0 hval0
  simp only [List.append_nil] at hW'
  refine (walk a0 a1 a2 a3 w2 w3 W).mono fun e W' ⟨he, hg⟩ => ?_
  subst he
  exact ⟨_, rfl, post_below (pa := []) (pv := []) hW' (fun _ _ _ => (trodAll_cons_mk (shut_bool Try.underlying4 _) trodAll_mk0)) (fun sp _ => (trodAll_cons_mk (shut_int Try.underlying22 w0) (trodAll_cons_mk (shut_int Try.underlying22 w1) (trodAll_cons_mk (shut_int Try.underlying5 w2) (trodAll_cons_mk (shut_int Try.underlying5 w3) trodAll_mk0))))) (fun _ _ => rfl) rfl
    hg (ok_one (by kernel_rfl) rfl (okWide_bool_mk Try.underlying4 _))⟩

theorem over : Rows.holdingTurnsRow.holds Try.pinned (OpenSpec.ofChange Rows.holdingTurnsSpec) :=
  OpenClaim.holds_of_wide 4 Try.f4 rfl rfl rfl rfl rfl rfl rfl ⟨rfl, rfl, rfl, rfl, rfl⟩ rfl rfl rfl rfl rfl (by kernel_rfl) Try.func4 (by kernel_rfl)
    (of_decide_eq_true (by kernel_rfl)) (by unfold Func.isWrapper; first | (rw [if_pos (by decide +kernel)]; kernel_rfl) | (rw [if_neg (by decide +kernel)]; exact ⟨rfl, rfl⟩))
    (fun os started H enc _ => lifted os started H enc)

theorem proved : Rows.HoldingTurnsSaid :=
  over
#print axioms proved
end Go.Proofs.Ythlpfefckhdpiaa.holdingTurns
