/- integer.read: the groups of a text. -/
import Derived.Test.YthlpfefckhdpiaaGreatDoorDigits
import Derived.Test.YthlpfefckhdpiaaGreatDoorMinus
import Derived.Test.YthlpfefckhdpiaaGreatDoorFormat
namespace Go.Proofs.YthlpfefckhdpiaaGreatDoor
open Go.RowKit Num

attribute [local go_sem] str_append str_extract str_size
theorem parse_nat (l : List UInt8) (acc : Nat) (hd : l.all isDig = true) (hlt : acc * 10 ^ l.length + nat l < 1000000000000000000) : Lib.parseUintM 18446744073709551615 acc l = .ok (acc * 10 ^ l.length + nat l) := by
  induction l generalizing acc with
  | nil => simp [Lib.parseUintM, nat]
  | cons c r ih =>
    simp only [List.all_cons, Bool.and_eq_true] at hd
    have hc := (isDig_iff c).1 hd.1
    rw [nat_cons, List.length_cons, Nat.pow_succ] at hlt ⊢
    have e : acc * (10 ^ r.length * 10) + ((c.toNat - 48) * 10 ^ r.length + nat r) = (acc * 10 + (c.toNat - 48)) * 10 ^ r.length + nat r := by
      rw [Nat.add_mul, Nat.mul_assoc, Nat.mul_comm 10 (10 ^ r.length), Nat.add_assoc]
    rw [e] at hlt ⊢
    have hp : 1 ≤ 10 ^ r.length := Nat.one_le_pow _ _ (by decide)
    have hb : acc * 10 + (c.toNat - 48) ≤ (acc * 10 + (c.toNat - 48)) * 10 ^ r.length := Nat.le_mul_of_pos_right _ hp
    rw [Lib.parseUintM, if_pos hc, if_neg (by omega), if_neg (by omega)]
    exact ih _ hd.2 hlt
theorem parse_group (c : List UInt8) (hd : c.all isDig = true) (hne : c ≠ []) (hl : c.length ≤ 9) : Lib.parseUintB 64 c = .ok (nat c) := by
  unfold Lib.parseUintB
  rw [if_neg hne]
  have := nat_lt c hd
  have h9 : 10 ^ c.length ≤ 10 ^ 9 := Nat.pow_le_pow_right (by decide) hl
  have h := parse_nat c 0 hd (by rw [Nat.zero_mul, Nat.zero_add]; have : (10 : Nat) ^ 9 = 1000000000 := by decide
                                 omega)
  rw [Nat.zero_mul, Nat.zero_add] at h
  exact h
theorem below_bytes (w : World) (e : TypeId) (s : ByteArray) : Below w.heap.size w (Lib.bytesWorld w e s) := by
  exact Lib.bytesWorld_below _ _ _
theorem parseGroup_any (c : List UInt8) (w : World) (hd : c.all isDig = true) (hne : c ≠ []) (hl : c.length ≤ 9) :
    Calls Tryz.prog 83 #[.string ⟨c.toArray⟩, .int .i64 10, .int .i64 64] w fun e w' => e = .returned (.tuple #[.int .u64 (nat c : Int), .nilIface]) ∧ Below w.heap.size w w' :=
  (Tryz.strconv_ParseUint_10_at64_ok ⟨c.toArray⟩ (by rw [str_size]; omega) (nat c) (parse_group c hd hne hl) w).mono fun e w' ⟨he, hw⟩ => ⟨he, by
    rcases hw with rfl | rfl
    · exact Below.refl _ _
    · exact below_bytes w _ _⟩

set_option maxHeartbeats 1000000 in
set_option maxRecDepth 100000 in
theorem read_any (l : List UInt8) (w : World) (hl : l.length ≤ 1000000000000) :
    Calls Tryz.prog 46 #[.string ⟨l.toArray⟩] w fun e w' => ∃ a c, e = .returned (.agg #[.bool (negs l), .slice a (groupsOf (nat (digs l))).length c]) ∧ (groupsOf (nat (digs l))).length ≤ c ∧ Fresh w.heap.size a ∧ Row w' a (gs (groupsOf (nat (digs l)))) ∧ Below w.heap.size w w' := by
  have H := Lib.hid (fun W => digits_any l W (by omega))
  have hdl := digs_le l
  have hda := digs_dig l
  have hdh := digs_head l
  generalize digs l = d at *
  generalize negs l = ng at *
  have HD := Lib.hid (And.intro hda hdh)
  clear hda hdh
  go_enter Tryz.func46, Tryz.ntmps46
  go_wp2_with (go_at_call 82; refine (H.out _).mono ?_; rintro e w1 ⟨rfl, hb1⟩)
  have hres : Hid (w1.heap[w.heap.size]? = some (.cells #[.bool false, .slice none 0 0] 85 (0, 0))) := by
    refine (hb1.block w.heap.size (by simp)).trans ?_
    exact heap_alloc_new w _
  have hbw : Below w.heap.size w w1 := ((Below.refl _ _).alloc (Nat.le_refl _) _).trans (hb1.mono (by simp))
  have hsz : w.heap.size + 1 ≤ w1.heap.size := by have := hb1.size; simp at this; omega
  have HZ := Lib.hid hsz
  clear hb1 hsz
  go_loopw [5, 6, 7, 8] (fun v en _ _ wr => ∃ (m : List Nat), en = .int .i64 ((d.length : Int) - 9 * (m.length : Int)) ∧ m.length * 9 ≤ d.length + 8 ∧ Hid ((∀ g ∈ m, g < 1000000000) ∧ gval m + 1000000000 ^ m.length * nat (d.take (d.length - 9 * m.length)) = nat d) ∧ Hid (wr.ownsRow (w.heap.size + 1) 111 1 v m.length (gs m)) ∧ Hid (wr.heap[w.heap.size]? = some (.cells #[.bool false, .slice none 0 0] 85 (0, 0))) ∧ Below w.heap.size w wr ∧ w.heap.size + 1 ≤ wr.heap.size) (fun _ en _ _ _ => (intOf en).toNat)
  case atStart =>
    refine ⟨[], by simp, by simp, ⟨by simp, by simp [gval]⟩, World.ownsRow_nil _ _ _ _, hres, hbw, HZ.out⟩
  case round =>
    obtain ⟨m, rfl, hml, hv, hown, hre, hbr, hsr⟩ := hrel
    by_cases hpos : 9 * m.length < d.length
    · obtain ⟨e, he⟩ : ∃ e : Nat, e = d.length - 9 * m.length := ⟨_, rfl⟩
      have hst := Lib.hid (groups_step HD.out.1 (e := e) (by omega) (by omega) hv.out.1 (by rw [he]; exact hv.out.2))
      have hcd : ((d.drop (e - 9)).take (e - (e - 9))).all isDig = true := by
        have := HD.out.1
        rw [List.all_eq_true] at *
        exact fun x hx => this x (List.mem_of_mem_drop (List.mem_of_mem_take hx))
      have hcl : ((d.drop (e - 9)).take (e - (e - 9))).length = e - (e - 9) := by rw [List.length_take, List.length_drop]; omega
      have HP := Lib.hid (fun W => parseGroup_any ((d.drop (e - 9)).take (e - (e - 9))) W hcd (by intro h; rw [h] at hcl; simp at hcl; omega) (by omega))
      have eI : (d.length : Int) - 9 * (m.length : Int) = (e : Int) := by omega
      rw [eI]
      have hepos : 0 < e := by omega
      have hed : e ≤ d.length := by omega
      have HE := Lib.hid he
      clear hcd hcl he eI
      have hsl : ∀ W, (Instr.slice 9 (.string ⟨d.toArray⟩) (some (.int .i64 (max 0 ((e : Int) - 9)))) (some (.int .i64 (e : Int))) none).run Tryz.prog W = .ok (.string ⟨((d.drop (e - 9)).take (e - (e - 9))).toArray⟩) W := fun W => by
        rw [run_slice_string W 9 ⟨d.toArray⟩ .i64 .i64 _ _ Tryz.underlying9 (by omega) (by omega) (by rw [str_size]; omega), str_extract, show (max 0 ((e : Int) - 9)).toNat = e - 9 by omega, Int.toNat_natCast]
      obtain ⟨c, hc⟩ : ∃ c, c = (d.drop (e - 9)).take (e - (e - 9)) := ⟨_, rfl⟩
      rw [← hc] at hsl HP hst
      clear hc
      have hz := hbr.size
      obtain ⟨i0, hi, hz0, hz1, hz2⟩ := info_parts infoU64
      go_wp2_with (go_at_call 83; refine (HP.out _).mono ?_)
      rintro e1 w2 ⟨rfl, hb2⟩
      have HOWN : Hid (w2.ownsRow (w.heap.size + 1) 111 1 u5 m.length (gs m)) := hown.out.kept (row := none) ⟨hb2.os, hb2.tape, hb2.output, hb2.size, fun k hk _ => hb2.block k hk⟩ (by
        cases hq : u5.ownBlock with
        | none => exact .inl rfl
        | some q => exact .inr (by simp))
      have hre2 : Hid (w2.heap[w.heap.size]? = some (.cells #[.bool false, .slice none 0 0] 85 (0, 0))) := (hb2.block _ (by omega)).trans hre.out
      have hbr2 : Below w.heap.size w w2 := below_up hbr hb2
      have hsz2 := hb2.size
      clear hown hre hsl
      go_wp2_with (at_builtin; refine wpList_append_own _ rfl _ _ 83 rfl (w.heap.size + 1) 111 i0 (.int .u64 0) 1 8 Tryz.underlying83 hi hz0 hz1 hz2 rfl (by decide) _ _ _ rfl (HOWN.out.alloc _) ⟨w2.heap.size, 0, none⟩ 1 1 [.int .u64 (nat c : Int)] rfl rfl ?c1 ?c2 ?c3 ?c4 ?c5 ?_)
      case c1 =>
        intro j u hj
        match j, hj with
        | 0, hj => simp at hj; subst hj; simp [Addr.add]
      case c2 => intro u hu; simp at hu; subst hu; rfl
      case c3 => unfold maxLen; omega
      case c4 => omega
      case c5 => simp; omega
      intro v' w3 hown' hgrow _
      have HO3 : Hid (w3.ownsRow (w.heap.size + 1) 111 1 v' (m ++ [nat c]).length (gs (m ++ [nat c]))) := by
        show w3.ownsRow (w.heap.size + 1) 111 1 v' (m ++ [nat c]).length (gs (m ++ [nat c]))
        rw [gs_append]
        simpa [gs] using hown'
      have hob := fun q hq => (HOWN.out.lt q hq).1
      have HR3 : Hid (w3.heap[w.heap.size]? = some (.cells #[.bool false, .slice none 0 0] 85 (0, 0))) := by
        refine (hgrow.block w.heap.size (by simp; omega) (fun h => by have := hob _ h.symm; omega)).trans ?_
        rw [Below.heap_alloc _ _ _ (by omega)]
        exact hre2.out
      have hbr3 : Below w.heap.size w w3 := (hbr2.alloc (by omega) _).grown hgrow (by simp; omega) (fun q hq => by have := hob q hq; omega)
      have hsz3 : w2.heap.size + 1 ≤ w3.heap.size := by have := hgrow.size; simpa using this
      clear hown' hgrow HOWN
      go_wp2
      refine ⟨⟨m ++ [nat c], ?_, ?_, ⟨hst.out.1, ?_⟩, HO3, HR3, hbr3, by omega⟩, by simp [intOf]; omega⟩
      · have := HE.out; simp; omega
      · have := HE.out; simp; omega
      · have h2 := hst.out.2
        have := HE.out
        rw [show d.length - 9 * (m ++ [nat c]).length = e - 9 by simp; omega]
        exact h2
    · have hge : ¬ (0 : Int) < (d.length : Int) - 9 * (m.length : Int) := by omega
      have hfin : Hid (m = groupsOf (nat d)) := groups_len HD.out.1 HD.out.2 hv.out.1 (by have := hv.out.2; rw [show d.length - 9 * m.length = 0 by omega] at this; simpa [nat] using this) (by omega)
      obtain ⟨a0, c0, rfl, hrow⟩ := row_of_owns hown.out
      have hcc : m.length ≤ c0 := by
        rcases hown.out.2 with ⟨e1, h0⟩ | ⟨g, cap, cur, e1, _, _, hle, _⟩
        · omega
        · injection e1 with _ _ e3; omega
      have HROW := Lib.hid hrow
      have k0 : wr.cell? ⟨w.heap.size, 0, none⟩ = some (.bool false) := by rw [Lib.cell_of_heap hre.out]; rfl
      have k1 : wr.cell? ⟨w.heap.size, 1, none⟩ = some (.slice none 0 0) := by rw [Lib.cell_of_heap hre.out]; rfl
      have f0 : wr.frozen? ⟨w.heap.size, 0, none⟩ = false := Lib.frozen_of_heap hre.out 0
      have f1 : wr.frozen? ⟨w.heap.size, 1, none⟩ = false := Lib.frozen_of_heap hre.out 1
      have hob := fun q (hq : (Value.slice a0 m.length c0).ownBlock = some q) => (hown.out.lt q hq).1
      have hnb : ∀ b off, a0 = some ⟨b, off, none⟩ → b ≠ w.heap.size := fun b off hb => by
        have := hob b (by rw [hb]; rfl); omega
      have HNB := Lib.hid hnb
      have HFR : Hid (Fresh w.heap.size a0) := fun b off hb => by
        have := hob b (by rw [hb]; rfl); omega
      clear hown hrow hob hnb
      go_wp2
      refine bodyPost_ret (v := .agg #[.bool ng, .slice a0 m.length c0]) (by simp [results, Tryz.results46, go_sem, k0, k1]) rfl ⟨a0, c0, by rw [← hfin.out], by rw [← hfin.out]; exact hcc, HFR.out, ?_, ?_⟩
      · rw [← hfin.out]
        exact ((HROW.out.setCell (p := ⟨w.heap.size, 0, none⟩) (fun b off hb => HNB.out b off hb) _).setCell (p := ⟨w.heap.size, 1, none⟩) (fun b off hb => HNB.out b off hb) _)
      · exact (hbr.setCell (p := ⟨w.heap.size, 0, none⟩) (Nat.le_refl _) _).setCell (p := ⟨w.heap.size, 1, none⟩) (Nat.le_refl _) _
end Go.Proofs.YthlpfefckhdpiaaGreatDoor
