/- slices.Concat of two lists of gains. -/
import Derived.Test.YthlpfefckhdpiaaGreatDoorConcat
namespace Go.Proofs.YthlpfefckhdpiaaGreatDoor
open Go.RowKit Num Dt
attribute [local go_sem] str_append str_extract str_size setCell_drewN
theorem run_append_empty {P : Program} (w : World) (t ty e : TypeId) (i : TypeInfo) (ht : P.underlying t = some (.slice e)) (hi : P.info? e = some i) (sa : Option Addr) (n cap : Nat) (hle : n ≤ cap) (a : Option Addr) (c : Nat) :
    (Builtin.append_ #[t, t] ty #[.slice sa n cap, .slice a 0 c]).run P w = .ok (.slice sa n cap) w := by
  cases sa <;> cases a <;> simp [Builtin.append_, run_underlying ht, sizeOf, typeInfo, hi, Builtin.lenOf, Builtin.firstCells, loadCells, loadCellsFrom, storeCells, hle]

theorem wpList_append_empty {P : Program} (w : World) {ops : Array Oper} {rest : List Oper} {o : Oper} {a : Act} {Q : Exit → Act → World → Prop} (hgd : o.guard = none) (s x : Operand) (t : TypeId)
    (ho : o.op = .call { callee := .builtin .append, args := #[s, x], argTypes := #[t, t] }) (e : TypeId) (i : TypeInfo) (ht : P.underlying t = some (.slice e)) (hi : P.info? e = some i)
    (base size : Nat) (v : Value) (n : Nat) (xs : List Value) (hs : a.eval s = v) (hown : w.ownsRow base e size v n xs) (sa : Option Addr) (c : Nat) (hx : a.eval x = .slice sa 0 c)
    (h : wpList P ops Q rest (a.put o.dst v) w) : wpList P ops Q (o :: rest) a w := by
  have hr : (Builtin.append_ #[t, t] o.type #[v, .slice sa 0 c]).run P w = .ok v w := by
    obtain ⟨_, hv | ⟨g, cap, cur, hv, _, _, hle, _⟩⟩ := hown
    · rw [hv.1]; exact run_append_empty w t o.type e i ht hi none 0 0 (Nat.le_refl _) sa c
    · rw [hv]; exact run_append_empty w t o.type e i ht hi _ n cap hle sa c
  exact Lib.wpList_append_run w hgd s x t t ho v (.slice sa 0 c) hs hx v w hr h
theorem Gains.flatCells {w : World} {a : Option Addr} {gs : List GainP} (h : Gains w a gs) (hne : gs ≠ []) : ∃ b off, a = some ⟨b, off, none⟩ ∧ b < w.heap.size ∧ ∀ j u, (flat gs)[j]? = some u → w.cell? ⟨b, off + j, none⟩ = some u := by
  rcases h with h | ⟨b, off, ha, hlt, hc⟩
  · exact absurd h hne
  · refine ⟨b, off, ha, hlt, fun j u hu => ?_⟩
    have hj : j < gs.length * 10 := by rw [← flat_length]; exact (List.getElem?_eq_some_iff.1 hu).1
    have hk : j / 10 < gs.length := by omega
    have hx : gs[j / 10]? = some gs[j / 10] := List.getElem?_eq_getElem hk
    have hg := flat_get gs (j / 10) gs[j / 10] (j % 10) hx (by omega)
    rw [show j / 10 * 10 + j % 10 = j by omega, hu] at hg
    obtain ⟨c0, c1, c2, c3, c4, c5, c6, c7, c8, c9⟩ := hc _ _ hx
    have e : off + j = off + j / 10 * 10 + j % 10 := by omega
    rw [e]
    have hm : j % 10 < 10 := by omega
    generalize j % 10 = m at *
    generalize gs[j / 10] = y at *
    simp only [GainP.cs] at hg
    match m, hm with
    | 0, _ => simp at hg; rw [hg]; exact c0
    | 1, _ => simp at hg; rw [hg]; exact c1
    | 2, _ => simp at hg; rw [hg]; exact c2
    | 3, _ => simp at hg; rw [hg]; exact c3
    | 4, _ => simp at hg; rw [hg]; exact c4
    | 5, _ => simp at hg; rw [hg]; exact c5
    | 6, _ => simp at hg; rw [hg]; exact c6
    | 7, _ => simp at hg; rw [hg]; exact c7
    | 8, _ => simp at hg; rw [hg]; exact c8
    | 9, _ => simp at hg; rw [hg]; exact c9
theorem flat_oneCell {gs : List GainP} : ∀ u, u ∈ flat gs → u.oneCell' = true := by
  intro u hu
  unfold flat at hu
  rw [List.mem_flatMap] at hu
  obtain ⟨x, _, hx⟩ := hu
  exact gain_one x u hx
set_option maxHeartbeats 4000000 in
set_option maxRecDepth 100000 in
theorem concatGain_any (gs ms : List GainP) (a a2 : Option Addr) (c c2 b : Nat) (T : TypeId) (w : World) (hn : gs.length ≤ 100) (hn2 : ms.length ≤ 100) (hK : Box w b #[.slice a gs.length c, .slice a2 ms.length c2] T) (hw : Gains w a gs) (hw2 : Gains w a2 ms) :
    Calls Tryz.prog 29 #[.slice (some ⟨b, 0, none⟩) 2 2] w fun e w' => (∃ a3 c3, e = .returned (.slice a3 (gs ++ ms).length c3) ∧ Gains w' a3 (gs ++ ms)) ∧ Below w.heap.size w w' := by
  obtain ⟨i0, hi, hz0, hz1, hz2⟩ := info_parts infoGain
  have HW := Lib.hid hw
  have HW2 := Lib.hid hw2
  have HK := Lib.hid hK
  have k0 : w.cell? ⟨b, 0, none⟩ = some (.slice a gs.length c) := hK.cell 0
  have k1 : w.cell? ⟨b, 1, none⟩ = some (.slice a2 ms.length c2) := hK.cell 1
  have H1 := Lib.hid (fun W => growGain_any (gs.length + ms.length) W (by omega))
  clear hw hw2 hK
  go_enter Tryz.func29, Tryz.ntmps29
  go_wp2
  go_loop [3, 11] (fun t i => ∃ k : Nat, ∃ s : Nat, i = .int .i64 (k : Int) ∧ t = .int .i64 (s : Int) ∧ (k = 0 ∧ s = 0 ∨ k = 1 ∧ s = gs.length ∨ k = 2 ∧ s = gs.length + ms.length)) (fun _ i => 2 - (intOf i).toNat)
  case atStart => exact ⟨0, 0, rfl, rfl, .inl ⟨rfl, rfl⟩⟩
  case round =>
    obtain ⟨k, s, rfl, rfl, hks⟩ := hrel
    rcases hks with ⟨rfl, rfl⟩ | ⟨rfl, rfl⟩ | ⟨rfl, rfl⟩
    · go_wp2
      go_round
      case rel => exact ⟨1, gs.length, by go_num, by go_num, .inr (.inl ⟨rfl, rfl⟩)⟩
      case measure => simp [intOf]
    · go_wp2
      go_round
      case rel => exact ⟨2, gs.length + ms.length, by go_num, by go_num, .inr (.inr ⟨rfl, rfl⟩)⟩
      case measure => simp [intOf]
    · go_wp2_with fail
      refine (H1.out _).mono ?_
      rintro e w1 ⟨⟨v, rfl, HO⟩, hb⟩
      have HO := Lib.hid HO
      have HB := Lib.hid hb
      clear hb H1 k0 k1
      go_wp2_with fail
      go_loopw [6, 27] (fun x i W => Hid (Below w.heap.size w W) ∧ ∃ k : Nat, i = .int .i64 (k : Int) ∧ (k = 0 ∧ Hid (W.ownsRow w.heap.size 51 10 x 0 []) ∨ k = 1 ∧ Hid (W.ownsRow w.heap.size 51 10 x gs.length (flat gs)) ∨ k = 2 ∧ Hid (W.ownsRow w.heap.size 51 10 x (gs.length + ms.length) (flat gs ++ flat ms)))) (fun _ i _ => 2 - (intOf i).toNat)
      case atStart => exact ⟨HB, 0, rfl, .inl ⟨rfl, HO⟩⟩
      case round =>
        clear HB HO
        obtain ⟨hB, k, rfl, hk⟩ := hrel
        rcases hk with ⟨rfl, hO⟩ | ⟨rfl, hO⟩ | ⟨rfl, hO⟩
        rotate_left 2
        · obtain ⟨a3, c3, e3, R3⟩ := row_of_owns hO.out
          subst e3
          have G3 := Lib.hid (gains_of_row (gs := gs ++ ms) (by rw [flat_append]; exact R3))
          clear R3 hO
          go_wp2
          go_ret
          exact ⟨⟨a3, c3, by rw [List.length_append]; rfl, G3.out⟩, hB.out⟩
        · skip
          have HG := Lib.hid (HW.out.below hB.out)
          have q0 : wr.cell? ⟨b, 0, none⟩ = some (.slice a gs.length c) := (HK.out.below hB.out).cell 0
          by_cases hne : gs = []
          · have HN := Lib.hid hne
            clear hne
            go_wp2_with (at_builtin; refine wpList_append_empty _ rfl _ _ 44 rfl 51 i0 Tryz.underlying44 hi w.heap.size 10 _ _ _ rfl hO.out a c (by show Value.slice a gs.length c = Value.slice a 0 c; rw [HN.out]; rfl) ?_)
            go_wp2
            go_round
            case rel => exact ⟨hB, 1, by go_num, .inr (.inl ⟨rfl, by rw [HN.out]; exact hO⟩)⟩
            case measure => simp [intOf]
          · obtain ⟨bs, os, ha, hlt, hcc⟩ := HG.out.flatCells hne
            subst ha
            have hs1 := hB.out.size
            go_wp2_with (at_builtin; refine wpList_append_own_at _ rfl _ _ 44 rfl w.heap.size 51 i0 zGain 10 144 Tryz.underlying44 hi hz0 hz1 hz2 rfl (by decide) _ _ _ rfl hO.out ⟨bs, os, none⟩ gs.length c (flat gs) rfl (flat_length _) ?c1 (fun u hu => flat_oneCell u hu) ?c3 ?c4 ?c5 ?_)
            case c1 => intro j u hj; rw [addr_add]; exact hcc j u hj
            case c3 => unfold maxLen; omega
            case c4 => omega
            case c5 => omega
            intro v' w3 hown' hgrow _ hat
            have hB2 := Lib.hid (grown_below hO.out hgrow hB.out hs1)
            have hO2 := Lib.hid hown'
            clear hat hgrow hown' hcc q0
            go_wp2
            go_round
            case rel => exact ⟨hB2, 1, by go_num, .inr (.inl ⟨rfl, by simpa [flat] using hO2⟩)⟩
            case measure => simp [intOf]
        · skip
          have HG := Lib.hid (HW2.out.below hB.out)
          have q0 : wr.cell? ⟨b, 1, none⟩ = some (.slice a2 ms.length c2) := (HK.out.below hB.out).cell 1
          by_cases hne : ms = []
          · have HN := Lib.hid hne
            clear hne
            go_wp2_with (at_builtin; refine wpList_append_empty _ rfl _ _ 44 rfl 51 i0 Tryz.underlying44 hi w.heap.size 10 _ _ _ rfl hO.out a2 c2 (by show Value.slice a2 ms.length c2 = Value.slice a2 0 c2; rw [HN.out]; rfl) ?_)
            go_wp2
            go_round
            case rel => exact ⟨hB, 2, by go_num, .inr (.inr ⟨rfl, by rw [HN.out]; simpa [flat] using hO⟩)⟩
            case measure => simp [intOf]
          · obtain ⟨bs, os, ha, hlt, hcc⟩ := HG.out.flatCells hne
            subst ha
            have hs1 := hB.out.size
            go_wp2_with (at_builtin; refine wpList_append_own_at _ rfl _ _ 44 rfl w.heap.size 51 i0 zGain 10 144 Tryz.underlying44 hi hz0 hz1 hz2 rfl (by decide) _ _ _ rfl hO.out ⟨bs, os, none⟩ ms.length c2 (flat ms) rfl (flat_length _) ?c1 (fun u hu => flat_oneCell u hu) ?c3 ?c4 ?c5 ?_)
            case c1 => intro j u hj; rw [addr_add]; exact hcc j u hj
            case c3 => unfold maxLen; omega
            case c4 => omega
            case c5 => omega
            intro v' w3 hown' hgrow _ hat
            have hB2 := Lib.hid (grown_below hO.out hgrow hB.out hs1)
            have hO2 := Lib.hid hown'
            clear hat hgrow hown' hcc q0
            go_wp2
            go_round
            case rel => exact ⟨hB2, 2, by go_num, .inr (.inr ⟨rfl, by simpa [flat] using hO2⟩)⟩
            case measure => simp [intOf]
end Go.Proofs.YthlpfefckhdpiaaGreatDoor
