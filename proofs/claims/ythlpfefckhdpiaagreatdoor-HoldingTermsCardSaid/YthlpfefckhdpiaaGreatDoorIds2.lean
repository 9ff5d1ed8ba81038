/- Walks of lot.isId and disposal.isLot, and the references' Id and number. -/
import Derived.Test.YthlpfefckhdpiaaGreatDoorIds
namespace Go.Proofs.YthlpfefckhdpiaaGreatDoor
open Go.RowKit Num
attribute [local go_sem] str_append str_extract str_size

theorem cut_len (l : List UInt8) : (Lib.cut l [47]).1.length ≤ l.length ∧ (Lib.cut l [47]).2.1.length ≤ l.length := by
  unfold Lib.cut
  split <;> simp
  omega
theorem step_lt {p : Nat → Prop} {k : Nat} (h : ∀ j, j < k → p j) (hk : p k) : ∀ j, j < k + 1 → p j := fun j hj => by
  rcases Nat.lt_or_ge j k with g | g
  · exact h j g
  · obtain rfl : j = k := by omega
    exact hk
theorem occ47 (l : List UInt8) (k : Nat) (h : k < l.length) : Lib.occAt l [47] k = (l.getD k 0 == 47) := by
  unfold Lib.occAt
  rw [List.drop_eq_getElem_cons h]
  simp [List.isPrefixOf, h]
  exact Bool.beq_comm
theorem occ47_out (l : List UInt8) (k : Nat) (h : l.length ≤ k) : Lib.occAt l [47] k = false := by
  unfold Lib.occAt
  rw [List.drop_eq_nil_of_le h]
  rfl
theorem cut_at (l : List UInt8) (k : Nat) (h : k < l.length) (h1 : l.getD k 0 = 47) (h2 : ∀ j, j < k → l.getD j 0 ≠ 47) : Lib.cut l [47] = (l.take k, l.drop (k + 1), true) := by
  have hi := Lib.index_first (s := l) (sub := [47]) (i := k) (by omega) (by rw [occ47 l k h, h1]; rfl) (fun j hj => by rw [occ47 l j (by omega)]; simpa using h2 j hj)
  unfold Lib.cut
  rw [hi, if_pos (by omega)]
  simp
theorem cut_none (l : List UInt8) (h2 : ∀ j, j < l.length → l.getD j 0 ≠ 47) : Lib.cut l [47] = (l, [], false) := by
  have hi := Lib.index_none (s := l) (sub := [47]) (fun j hj => by
    by_cases h : j < l.length
    · rw [occ47 l j h]; simpa using h2 j h
    · exact occ47_out l j (by omega))
  unfold Lib.cut
  rw [hi, if_neg (by omega)]
theorem isId_at (l : List UInt8) (k : Nat) (h : k < l.length) (h1 : l.getD k 0 = 47) (h2 : ∀ j, j < k → l.getD j 0 ≠ 47) : isId l = (isNum (l.drop (k + 1)) && isName (l.take k)) := by
  unfold isId
  rw [cut_at l k h h1 h2]
theorem isId_none (l : List UInt8) (h2 : ∀ j, j < l.length → l.getD j 0 ≠ 47) : isId l = false := by
  unfold isId
  rw [cut_none l h2]
  rfl

set_option maxHeartbeats 1000000 in
set_option maxRecDepth 100000 in
theorem isId_any (l : List UInt8) (w : World) (hE : Env w) (hl : l.length < 4294967281) :
    Calls Tryz.prog 116 #[.string ⟨l.toArray⟩] w fun e w' => e = .returned (.bool (isId l)) ∧ Below w.heap.size w w' := by
  have H1 := Lib.hid (cutSlash l w hE hl)
  have hc := Lib.hid (show isId l = (isNum (Lib.cut l [47]).2.1 && isName (Lib.cut l [47]).1) from rfl)
  have hcl := cut_len l
  generalize (Lib.cut l [47]).1 = x at *
  generalize (Lib.cut l [47]).2.1 = y at *
  generalize (Lib.cut l [47]).2.2 = z at *
  generalize isId l = r at *
  have H4 := Lib.hid (fun W => Name_any x W (by omega))
  have HE := Lib.hid hE
  rcases Classical.em (∃ v, Lib.atoiAll y = .ok v) with ⟨v, hv⟩ | hv
  · have H2 := Lib.hid (fun W (_ : True) => atoi_yes y v hv W (by omega))
    have hb := atoi_bd hv
    have H3 := Lib.hid (fun W hW => itoa_any v hb.1 hb.2 W hW)
    have hn := Lib.hid (isNum_ok hv)
    clear hv hE
    obtain ⟨hbd1, hbd2⟩ := hb
    generalize isNum y = ny at *
    generalize isName x = nx at *
    generalize Lib.itoa v = t at *
    by_cases g1 : 1 ≤ v <;> by_cases g2 : v ≤ 9999 <;> by_cases g3 : t = y <;> cases nx
    all_goals try (exfalso; omega)
    all_goals
      go_enter Tryz.func116, Tryz.ntmps116
      go_wp2_with fail
      refine H1.out.mono ?_
      rintro e w1 ⟨rfl, hb1⟩
      go_wp2_with fail
      refine (H2.out _ trivial).mono ?_
      rintro e w2 ⟨rfl, hb2⟩
      go_wp2_with (first | (go_at_call 101; refine (H4.out _).mono ?_; rintro e w4 ⟨rfl, hb4⟩) | (go_at_call 141; refine (H3.out _ (HE.out.below (by first | exact below_up (below_up hb1 hb2) hb4 | exact below_up hb1 hb2))).mono ?_; rintro e w3 ⟨rfl, hb3⟩))
      go_ret
      refine ⟨ret_bool (by rw [hc.out, hn.out]; simp [g1, g2, g3]), ?_⟩
      first | exact below_up (below_up (below_up hb1 hb2) hb3) hb4 | exact below_up (below_up (below_up hb1 hb2) hb4) hb3 | exact below_up (below_up hb1 hb2) hb4 | exact below_up (below_up hb1 hb2) hb3 | exact below_up hb1 hb2
  · have hv' : ∀ v, Lib.atoiAll y ≠ .ok v := fun v h => hv ⟨v, h⟩
    have H2 := Lib.hid (fun W hW => atoi_no y hv' W hW (by omega))
    have hn := Lib.hid (isNum_bad hv')
    have H3 : True := trivial
    clear hv hv' hE
    generalize isNum y = ny at *
    generalize isName x = nx at *
    cases nx
    all_goals
      go_enter Tryz.func116, Tryz.ntmps116
      go_wp2_with fail
      refine H1.out.mono ?_
      rintro e w1 ⟨rfl, hb1⟩
      go_wp2_with fail
      refine (H2.out _ (HE.out.below hb1)).mono ?_
      rintro e w2 ⟨n, p, rfl, hb2⟩
      go_wp2_with (first | (go_at_call 101; refine (H4.out _).mono ?_; rintro e w4 ⟨rfl, hb4⟩) | (go_at_call 141; skip))
      go_ret
      refine ⟨ret_bool (by rw [hc.out, hn.out]; simp), ?_⟩
      first | exact below_up (below_up (below_up hb1 hb2) hb3) hb4 | exact below_up (below_up (below_up hb1 hb2) hb4) hb3 | exact below_up (below_up hb1 hb2) hb4 | exact below_up (below_up hb1 hb2) hb3 | exact below_up hb1 hb2

set_option maxHeartbeats 1000000 in
set_option maxRecDepth 100000 in
theorem isLot_any (l : List UInt8) (w : World) (hE : Env w) (hl : l.length < 4294967281) :
    Calls Tryz.prog 102 #[.string ⟨l.toArray⟩] w fun e w' => e = .returned (.bool (isId l)) ∧ Below w.heap.size w w' := by
  have H1 := Lib.hid (cutSlash l w hE hl)
  have hc := Lib.hid (show isId l = (isNum (Lib.cut l [47]).2.1 && isName (Lib.cut l [47]).1) from rfl)
  have hcl := cut_len l
  generalize (Lib.cut l [47]).1 = x at *
  generalize (Lib.cut l [47]).2.1 = y at *
  generalize (Lib.cut l [47]).2.2 = z at *
  generalize isId l = r at *
  have H4 := Lib.hid (fun W => Name_any x W (by omega))
  have HE := Lib.hid hE
  rcases Classical.em (∃ v, Lib.atoiAll y = .ok v) with ⟨v, hv⟩ | hv
  · have H2 := Lib.hid (fun W (_ : True) => atoi_yes y v hv W (by omega))
    have hb := atoi_bd hv
    have H3 := Lib.hid (fun W hW => itoa_any v hb.1 hb.2 W hW)
    have hn := Lib.hid (isNum_ok hv)
    clear hv hE
    obtain ⟨hbd1, hbd2⟩ := hb
    generalize isNum y = ny at *
    generalize isName x = nx at *
    generalize Lib.itoa v = t at *
    by_cases g1 : 1 ≤ v <;> by_cases g2 : v ≤ 9999 <;> by_cases g3 : t = y <;> cases nx
    all_goals try (exfalso; omega)
    all_goals
      go_enter Tryz.func102, Tryz.ntmps102
      go_wp2_with fail
      refine H1.out.mono ?_
      rintro e w1 ⟨rfl, hb1⟩
      go_wp2_with fail
      refine (H2.out _ trivial).mono ?_
      rintro e w2 ⟨rfl, hb2⟩
      go_wp2_with (first | (go_at_call 101; refine (H4.out _).mono ?_; rintro e w4 ⟨rfl, hb4⟩) | (go_at_call 141; refine (H3.out _ (HE.out.below (by first | exact below_up (below_up hb1 hb2) hb4 | exact below_up hb1 hb2))).mono ?_; rintro e w3 ⟨rfl, hb3⟩))
      go_ret
      refine ⟨ret_bool (by rw [hc.out, hn.out]; simp [g1, g2, g3]), ?_⟩
      first | exact below_up (below_up (below_up hb1 hb2) hb3) hb4 | exact below_up (below_up (below_up hb1 hb2) hb4) hb3 | exact below_up (below_up hb1 hb2) hb4 | exact below_up (below_up hb1 hb2) hb3 | exact below_up hb1 hb2
  · have hv' : ∀ v, Lib.atoiAll y ≠ .ok v := fun v h => hv ⟨v, h⟩
    have H2 := Lib.hid (fun W hW => atoi_no y hv' W hW (by omega))
    have hn := Lib.hid (isNum_bad hv')
    have H3 : True := trivial
    clear hv hv' hE
    generalize isNum y = ny at *
    generalize isName x = nx at *
    cases nx
    all_goals
      go_enter Tryz.func102, Tryz.ntmps102
      go_wp2_with fail
      refine H1.out.mono ?_
      rintro e w1 ⟨rfl, hb1⟩
      go_wp2_with fail
      refine (H2.out _ (HE.out.below hb1)).mono ?_
      rintro e w2 ⟨n, p, rfl, hb2⟩
      go_wp2_with (first | (go_at_call 101; refine (H4.out _).mono ?_; rintro e w4 ⟨rfl, hb4⟩) | (go_at_call 141; skip))
      go_ret
      refine ⟨ret_bool (by rw [hc.out, hn.out]; simp), ?_⟩
      first | exact below_up (below_up (below_up hb1 hb2) hb3) hb4 | exact below_up (below_up (below_up hb1 hb2) hb4) hb3 | exact below_up (below_up hb1 hb2) hb4 | exact below_up (below_up hb1 hb2) hb3 | exact below_up hb1 hb2

set_option maxHeartbeats 1000000 in
set_option maxRecDepth 100000 in
theorem RNum_any (l : List UInt8) (w : World) (hl : l.length ≤ 9000000000000000000) :
    Calls Tryz.prog 111 #[.string ⟨l.toArray⟩] w fun e w' => e = .returned (.bool (isNum l)) ∧ w = w' := by
  have hd := Lib.hid (show isNum l = (decide (1 ≤ l.length) && decide (l.length ≤ 4) && l.all isDig && decide (l.head? ≠ some 48)) from rfl)
  by_cases g1 : l.length < 1
  · have g1' : (l.length : Int) < 1 := by omega
    go_enter Tryz.func111, Tryz.ntmps111
    go_wp2
    go_ret
    exact ⟨ret_bool (by rw [hd.out]; simp; omega), rfl⟩
  have g1' : ¬ (l.length : Int) < 1 := by omega
  by_cases g2 : 4 < l.length
  · have g2' : (4 : Int) < l.length := by omega
    go_enter Tryz.func111, Tryz.ntmps111
    go_wp2
    go_ret
    exact ⟨ret_bool (by rw [hd.out]; simp; omega), rfl⟩
  have g2' : ¬ (4 : Int) < l.length := by omega
  have hsz0 : 0 < (⟨l.toArray⟩ : ByteArray).size := by rw [str_size]; omega
  have hg0 := Lib.hid (str_get l 0 hsz0)
  have hh := Lib.hid (show l.head? = some (l.getD 0 0) by cases l with
    | nil => simp at g1
    | cons a r => simp)
  by_cases g3 : ((⟨l.toArray⟩ : ByteArray)[0]'hsz0).toNat = 48
  · have g3' : (((⟨l.toArray⟩ : ByteArray)[0]'hsz0).toNat : Int) = 48 := by omega
    go_enter Tryz.func111, Tryz.ntmps111
    go_wp2
    go_ret
    exact ⟨ret_bool (by
      have e : l.getD 0 0 = 48 := by rw [← hg0.out]; apply UInt8.toNat.inj; simpa using g3
      rw [hd.out, hh.out, e]; simp), rfl⟩
  have g3' : ¬ (((⟨l.toArray⟩ : ByteArray)[0]'hsz0).toNat : Int) = 48 := by omega
  have e : Hid (l.getD 0 0 ≠ 48) := fun h => by rw [← hg0.out] at h; rw [h] at g3; exact g3 rfl
  go_enter Tryz.func111, Tryz.ntmps111
  go_wp2
  go_loop [3] (fun i => ∃ k : Nat, k ≤ l.length ∧ i = .int .i64 (k : Int) ∧ Hid (∀ j, j < k → isDig (l.getD j 0) = true)) (fun i => l.length - (intOf i).toNat)
  case atStart => exact ⟨0, Nat.zero_le _, rfl, fun j hj => absurd hj (Nat.not_lt_zero j)⟩
  case round =>
    obtain ⟨k, hk, rfl, hp⟩ := hrel
    by_cases hlt : k < l.length
    · have hsz : k < (⟨l.toArray⟩ : ByteArray).size := by rw [str_size]; exact hlt
      have hgk := Lib.hid (congrArg UInt8.toNat (str_get l k hsz))
      have hdef := Lib.hid (isDig_iff (l.getD k 0))
      rw [← hgk.out] at hdef
      by_cases n1 : (((⟨l.toArray⟩ : ByteArray)[k]'hsz).toNat : Int) < 48
      · have e1 : isDig (l.getD k 0) = false := by cases hb : isDig (l.getD k 0) with
          | false => rfl
          | true => have := hdef.out.1 hb; omega
        have hs2 := Lib.hid (all_false hlt e1)
        clear hdef hgk e1 hg0
        go_wp2
        go_ret
        exact ⟨ret_bool (by rw [hd.out, hs2.out]; simp), rfl⟩
      · by_cases n2 : (57 : Int) < ((⟨l.toArray⟩ : ByteArray)[k]'hsz).toNat
        · have e1 : isDig (l.getD k 0) = false := by cases hb : isDig (l.getD k 0) with
            | false => rfl
            | true => have := hdef.out.1 hb; omega
          have hs2 := Lib.hid (all_false hlt e1)
          clear hdef hgk e1 hg0
          go_wp2
          go_ret
          exact ⟨ret_bool (by rw [hd.out, hs2.out]; simp), rfl⟩
        · have hs2 := Lib.hid (step_lt (p := fun j => isDig (l.getD j 0) = true) hp.out (hdef.out.2 (by omega)))
          clear hdef hgk hg0
          go_wp2
          go_round
          case rel => exact ⟨k + 1, by omega, by go_num, hs2⟩
          case measure => simp [intOf]; omega
    · obtain rfl : k = l.length := by omega
      have hs2 := Lib.hid (all_true hp.out)
      go_wp2
      go_ret
      exact ⟨ret_bool (by rw [hd.out, hs2.out, hh.out]; have := e.out; simp at this; simp [this]; omega), rfl⟩

set_option maxHeartbeats 1000000 in
set_option maxRecDepth 100000 in
theorem RId_any (l : List UInt8) (w : World) (hl : l.length ≤ 9000000000000000000) :
    Calls Tryz.prog 69 #[.string ⟨l.toArray⟩] w fun e w' => e = .returned (.bool (isId l)) ∧ w = w' := by
  have ha := Lib.hid (isId_at l)
  have hn := Lib.hid (isId_none l)
  go_enter Tryz.func69, Tryz.ntmps69
  go_wp2
  go_loop [3] (fun i => ∃ k : Nat, k ≤ l.length ∧ i = .int .i64 (k : Int) ∧ Hid (∀ j, j < k → l.getD j 0 ≠ 47)) (fun i => l.length - (intOf i).toNat)
  case atStart => exact ⟨0, Nat.zero_le _, rfl, fun j hj => absurd hj (Nat.not_lt_zero j)⟩
  case round =>
    obtain ⟨k, hk, rfl, hp⟩ := hrel
    by_cases hlt : k < l.length
    · have hsz : k < (⟨l.toArray⟩ : ByteArray).size := by rw [str_size]; exact hlt
      have hgk := Lib.hid (str_get l k hsz)
      by_cases n1 : (((⟨l.toArray⟩ : ByteArray)[k]'hsz).toNat : Int) = 47
      · have e1 : Hid (l.getD k 0 = 47) := by
          show _ = _
          rw [← hgk.out]
          apply UInt8.toNat.inj
          have : ((⟨l.toArray⟩ : ByteArray)[k]'hsz).toNat = 47 := by omega
          rw [this]; rfl
        have HA := Lib.hid (ha.out k hlt e1.out hp.out)
        have H1 := Lib.hid (fun m W (e : m = l.take k) => show Calls Tryz.prog 70 #[.string ⟨m.toArray⟩] W (fun e w' => e = .returned (.bool (isName (l.take k))) ∧ W = w') by subst e; exact RName_any (l.take k) W (by simp; omega))
        have H2 := Lib.hid (fun m W (e : m = l.drop (k + 1)) => show Calls Tryz.prog 111 #[.string ⟨m.toArray⟩] W (fun e w' => e = .returned (.bool (isNum (l.drop (k + 1)))) ∧ W = w') by subst e; exact RNum_any (l.drop (k + 1)) W (by simp; omega))
        clear hgk e1 ha hn hp
        generalize isName (l.take k) = r1 at *
        generalize isNum (l.drop (k + 1)) = r2 at *
        cases r1
        all_goals
          go_wp2_with (first | (go_at_call 70; refine (H1.out _ _ (by simp)).mono ?_; rintro e w1 ⟨rfl, rfl⟩) | (go_at_call 111; refine (H2.out _ _ (by rw [List.take_of_length_le]; simp)).mono ?_; rintro e w1 ⟨rfl, rfl⟩))
          go_ret
          exact ⟨ret_bool (by rw [HA.out]; simp), rfl⟩
      · have e1 : l.getD k 0 ≠ 47 := fun h => by
          rw [← hgk.out] at h
          rw [h] at n1
          exact n1 rfl
        have hs2 := Lib.hid (step_lt (p := fun j => l.getD j 0 ≠ 47) hp.out e1)
        clear hgk e1
        go_wp2
        go_round
        case rel => exact ⟨k + 1, by omega, by go_num, hs2⟩
        case measure => simp [intOf]; omega
    · obtain rfl : k = l.length := by omega
      go_wp2
      go_ret
      exact ⟨ret_bool (by rw [hn.out hp.out]), rfl⟩
end Go.Proofs.YthlpfefckhdpiaaGreatDoor
