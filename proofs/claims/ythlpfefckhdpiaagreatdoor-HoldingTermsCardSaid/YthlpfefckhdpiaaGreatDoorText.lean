/- (number).text: the text of a value. -/
import Derived.Test.YthlpfefckhdpiaaGreatDoorRead
import Derived.Test.YthlpfefckhdpiaaGreatDoorBuilder
namespace Go.Proofs.YthlpfefckhdpiaaGreatDoor
open Go.RowKit Num
attribute [local go_sem] str_append str_extract str_size

theorem builder_below {T e : TypeId} {B b : Nat} {p : Value} {bs : List Value} {w w' : World} (h : Lib.BuilderAt T e B b p bs w) (hb : Below w.heap.size w w') : Lib.BuilderAt T e B b p bs w' := by
  obtain ⟨h1, v, h2, h3, h4⟩ := h
  refine ⟨h1, v, (hb.block b (Array.getElem?_eq_some_iff.1 h2).1).trans h2, ?_, h4⟩
  refine h3.kept (row := none) ⟨hb.os, hb.tape, hb.output, hb.size, fun k hk _ => hb.block k hk⟩ ?_
  cases hq : v.ownBlock with
  | none => exact .inl rfl
  | some q => exact .inr (by simp)
theorem isBuilder_below {T e : TypeId} {B b : Nat} {bs : List Value} {w w' : World} (h : Lib.IsBuilder T e B b bs w) (hb : Below w.heap.size w w') : Lib.IsBuilder T e B b bs w' :=
  h.imp (fun h => builder_below h hb) (fun h => builder_below h hb)
theorem strCells_eq (l : List UInt8) : Lib.strCells ⟨l.toArray⟩ = Lib.byteCells l := rfl
theorem byteCells_append (a b : List UInt8) : Lib.byteCells (a ++ b) = Lib.byteCells a ++ Lib.byteCells b := by simp [Lib.byteCells]
theorem repeatL_zero (k : Nat) : Lib.repeatL [48] k = List.replicate k 48 := by
  induction k with
  | zero => rfl
  | succ k ih => rw [Lib.repeatL, ih]; rfl
theorem repeatZero (k : Nat) (w : World) (hk : k ≤ 1000) :
    Calls Tryz.prog 88 #[.string ⟨#[48]⟩, .int .i64 (k : Int)] w fun e w' => e = .returned (.string ⟨(List.replicate k 48).toArray⟩) ∧ Below w.heap.size w w' := by
  have h := Tryz.strings_Repeat ⟨#[48]⟩ k w (by omega) (by show 1 * k ≤ _; omega)
  have e : Lib.repeatL (⟨#[48]⟩ : ByteArray).data.toList k = List.replicate k 48 := repeatL_zero k
  rw [e] at h
  exact h

theorem decDigits_gval_le {m : List Nat} (hm : ∀ g ∈ m, g < 1000000000) (hne : m ≠ []) : (Lib.decDigits (gval m)).length ≤ 9 * m.length := by
  rw [Lib.decDigits_length]
  have h := gval_lt hm
  have e9 : (1000000000 : Nat) = 10 ^ 9 := by decide
  rw [e9, ← Nat.pow_mul] at h
  exact nDigits_le _ _ (by have := List.length_pos_iff.2 hne; omega) h
theorem text_zero (neg : Bool) (a : Option Addr) (cap : Nat) (w : World) :
    Calls Tryz.prog 47 #[.agg #[.bool neg, .slice a 0 cap]] w fun e w' => e = .returned (.string ⟨#[]⟩) ∧ Below w.heap.size w w' := by
  go_enter Tryz.func47, Tryz.ntmps47
  go_wp2_with (go_at_call 84; refine (cut_nil a cap _).mono ?_; rintro e w1 ⟨rfl, rfl⟩)
  go_ret
  exact ⟨rfl, (Below.refl _ _).alloc (Nat.le_refl _) _⟩

set_option maxHeartbeats 2000000 in
set_option maxRecDepth 100000 in
theorem text_some (m : List Nat) (hm : Norm m) (hne : m ≠ []) (neg : Bool) (b off cap : Nat) (w : World) (hE : Env w) (hl : m.length ≤ cap) (hlen : m.length ≤ 1000000000000) (hb : b < w.heap.size) (hc : ∀ k u, (gs m)[k]? = some u → w.cell? ⟨b, off + k, none⟩ = some u) :
    Calls Tryz.prog 47 #[.agg #[.bool neg, .slice (some ⟨b, off, none⟩) m.length cap]] w fun e w' => e = .returned (.string ⟨((if neg = true then [45] else []) ++ Lib.decDigits (gval m)).toArray⟩) ∧ Below w.heap.size w w' := by
  have HCUT := Lib.hid (fun W (hW : ∀ k u, (gs m)[k]? = some u → W.cell? ⟨b, off + k, none⟩ = some u) => cut_some m b off cap W hl (by omega) hW)
  rw [cutZ_norm hm.2] at HCUT
  have HC : Hid (∀ W, Below w.heap.size w W → ∀ k, k < m.length → W.cell? ⟨b, off + k, none⟩ = some (.int .u64 ((m.getD k 0 : Nat) : Int))) := fun W hW k hk => (hW.cell (p := ⟨b, off + k, none⟩) hb).trans (hc k _ (gs_get m k hk))
  have HC0 := Lib.hid hc
  have HM := Lib.hid hm
  have HE := Lib.hid hE
  obtain ⟨y, hy⟩ : ∃ y, m.length = y + 1 := ⟨m.length - 1, by have := List.length_pos_iff.2 hne; omega⟩
  have HY := Lib.hid hy
  have hgy := hm.1 _ (mem_getD (m := m) (k := y) (by omega))
  have hdy : m.drop y = [m.getD y 0] := by rw [drop_cons_getD m y (by omega), List.drop_eq_nil_of_le (by omega)]
  have htop : Hid (gval (m.drop y) = m.getD y 0) := by rw [hdy]; exact Nat.add_zero _
  rw [hy] at hl hlen HCUT ⊢
  obtain ⟨pre, hpre⟩ : ∃ pre : List UInt8, pre = if neg = true then [45] else [] := ⟨_, rfl⟩
  have hpl : pre.length ≤ 1 := by rw [hpre]; split <;> simp
  rw [← hpre]
  clear hc hm hne hy hE hdy
  have hk0 := fun o1 o2 => HC.out ((w.alloc o1).alloc o2) (((Below.refl _ _).alloc (Nat.le_refl _) _).alloc (by simp) _) y (by rw [HY.out]; omega)
  generalize hgg : m.getD y 0 = g at *
  have HG := Lib.hid hgg
  clear hgg
  cases neg
  case' true =>
    rw [if_pos rfl] at hpre
    go_enter Tryz.func47, Tryz.ntmps47
    go_wp2_with (go_at_call 84; refine (HCUT.out _ (fun k u hu => Lib.cell?_alloc_some _ (HC0.out k u hu))).mono ?_; rintro e w1 ⟨rfl, rfl⟩)
    refine (writeByte_any (w.heap.size + 1) (w.heap.size + 1) [] 45 _ (by have := Lib.fresh_isBuilder 120 5 (w.alloc (Obj.cells #[Value.bool true, Value.slice (some ⟨b, off, none⟩) (y + 1) cap] 85)); simpa using this) (by simp) (by simp)).mono ?_
    rintro e w1 ⟨rfl, hB1, hb1⟩
    have hbw : Below w.heap.size w w1 := (((Below.refl _ _).alloc (Nat.le_refl _) _).alloc (by simp) _).trans (hb1.mono (by omega))
    have hsz : w.heap.size + 2 ≤ w1.heap.size := by have := hb1.size; simp at this; omega
    have HB1 : Hid (Lib.IsBuilder 120 5 (w.heap.size + 1) (w.heap.size + 1) (Lib.byteCells pre) w1) := by rw [hpre]; exact .inr hB1
    have HPRE := Lib.hid hpre
    have hk1 := HC.out w1 hbw y (by rw [HY.out]; omega)
    rw [HG.out] at hk1
    clear hb1 hB1 hpre hk0
  case' false =>
    rw [if_neg (by decide)] at hpre
    go_enter Tryz.func47, Tryz.ntmps47
    go_wp2_with (go_at_call 84; refine (HCUT.out _ (fun k u hu => Lib.cell?_alloc_some _ (HC0.out k u hu))).mono ?_; rintro e w1 ⟨rfl, rfl⟩)
    have hB1 : Lib.IsBuilder 120 5 (w.heap.size + 1) (w.heap.size + 1) [] ((w.alloc (Obj.cells #[Value.bool false, Value.slice (some ⟨b, off, none⟩) (y + 1) cap] 85)).alloc (Obj.cells #[Value.pointer none, Value.slice none 0 0] 120)) := by
      have := Lib.fresh_isBuilder 120 5 (w.alloc (Obj.cells #[Value.bool false, Value.slice (some ⟨b, off, none⟩) (y + 1) cap] 85)); simpa using this
    have hbw : Below w.heap.size w ((w.alloc (Obj.cells #[Value.bool false, Value.slice (some ⟨b, off, none⟩) (y + 1) cap] 85)).alloc (Obj.cells #[Value.pointer none, Value.slice none 0 0] 120)) := ((Below.refl _ _).alloc (Nat.le_refl _) _).alloc (by simp) _
    have hsz : w.heap.size + 2 ≤ ((w.alloc (Obj.cells #[Value.bool false, Value.slice (some ⟨b, off, none⟩) (y + 1) cap] 85)).alloc (Obj.cells #[Value.pointer none, Value.slice none 0 0] 120)).heap.size := by simp
    generalize (w.alloc (Obj.cells #[Value.bool false, Value.slice (some ⟨b, off, none⟩) (y + 1) cap] 85)).alloc (Obj.cells #[Value.pointer none, Value.slice none 0 0] 120) = w1 at *
    have HB1 : Hid (Lib.IsBuilder 120 5 (w.heap.size + 1) (w.heap.size + 1) (Lib.byteCells pre) w1) := by rw [hpre]; exact hB1
    have HPRE := Lib.hid hpre
    have hk1 := HC.out w1 hbw y (by rw [HY.out]; omega)
    rw [HG.out] at hk1
    clear hB1 hpre hk0
  case' true => go_wp2_with fail
  all_goals
    refine (formatUint_any g (by omega) _ (HE.out.below hbw)).mono ?_
    rintro e w2 ⟨rfl, hb2⟩
    go_wp2_with fail
    refine (writeString_any (w.heap.size + 1) (w.heap.size + 1) (Lib.byteCells pre) ⟨(Lib.decDigits g).toArray⟩ _ (isBuilder_below HB1.out hb2) (by rw [Lib.byteCells_length, str_size]; have := decDigits_le9 g hgy; omega) (by have := hb2.size; omega)).mono ?_
    rintro e w3 ⟨rfl, hB3, hb3⟩
    have HB3 : Hid (Lib.IsBuilder 120 5 (w.heap.size + 1) (w.heap.size + 1) (Lib.byteCells (pre ++ Lib.decDigits (gval (m.drop y)))) w3) := by
      rw [htop.out, byteCells_append, ← strCells_eq (Lib.decDigits g)]; exact .inr hB3
    have hbw3 : Below w.heap.size w w3 := (below_up hbw hb2).trans (hb3.mono (by omega))
    have hsz3 : w.heap.size + 2 ≤ w3.heap.size := by have := hb3.size; have := hb2.size; omega
    clear hB3 hb3 hb2 HB1 hbw hsz hk1 htop
    go_wp2
    go_loopw [5, 6] (fun i _ wr => ∃ k : Nat, k ≤ y ∧ i = .int .i64 ((k : Int) - 1) ∧ Hid (Lib.IsBuilder 120 5 (w.heap.size + 1) (w.heap.size + 1) (Lib.byteCells (pre ++ Lib.decDigits (gval (m.drop k)))) wr) ∧ Below w.heap.size w wr ∧ w.heap.size + 2 ≤ wr.heap.size) (fun i _ _ => (intOf i + 1).toNat)
    case atStart => exact ⟨y, Nat.le_refl _, congrArg (Value.int .i64) (by omega), HB3, hbw3, hsz3⟩
    case round =>
      obtain ⟨k, hk, rfl, hB, hbr, hsr⟩ := hrel
      clear HB3 hbw3 hsz3
      rcases Nat.eq_zero_or_pos k with rfl | hpos
      · go_wp2_with (go_at_call 89; refine (Tryz.Builder_String_any (w.heap.size + 1) (w.heap.size + 1) _ _ hB.out (by omega)).mono ?_; rintro e w5 ⟨rfl, hb5⟩)
        go_ret
        exact ⟨rfl, hbr.trans (hb5.mono (by omega))⟩
      · obtain ⟨j, rfl⟩ : ∃ j, k = j + 1 := ⟨k - 1, by omega⟩
        have hkj := HC.out wr hbr j (by rw [HY.out]; omega)
        have hgj := HM.out.1 _ (mem_getD (m := m) (k := j) (by rw [HY.out]; omega))
        have hdd := Lib.hid (decDigits_drop HM.out (k := j) (by rw [HY.out]; omega))
        generalize m.getD j 0 = gj at *
        have hl9 := decDigits_le9 gj hgj
        go_wp2_with fail
        refine (formatUint_any gj (by omega) _ (HE.out.below hbr)).mono ?_
        rintro e w5 ⟨rfl, hb5⟩
        go_wp2_with fail
        rw [show (9 : Int) - ((Lib.decDigits gj).length : Int) = ((9 - (Lib.decDigits gj).length : Nat) : Int) by omega]
        refine (repeatZero _ _ (by omega)).mono ?_
        rintro e w6 ⟨rfl, hb6⟩
        go_wp2_with fail
        have hlp : (Lib.decDigits (gval (m.drop (j + 1)))).length ≤ 10000000000000 := by
          have h1 := decDigits_gval_le (m := m.drop (j + 1)) (fun x hx => HM.out.1 x (List.mem_of_mem_drop hx)) (by intro e; have h2 := congrArg List.length e; have h3 := HY.out; rw [List.length_drop] at h2; simp at h2; omega)
          have h3 := HY.out
          rw [List.length_drop] at h1
          omega
        refine (writeString_any (w.heap.size + 1) (w.heap.size + 1) _ _ _ (isBuilder_below (isBuilder_below hB.out hb5) hb6) (by rw [Lib.byteCells_length, str_size]; simp; omega) (by have := hb5.size; have := hb6.size; omega)).mono ?_
        rintro e w7 ⟨rfl, hB7, hb7⟩
        have HB7 : Hid (Lib.IsBuilder 120 5 (w.heap.size + 1) (w.heap.size + 1) (Lib.byteCells (pre ++ Lib.decDigits (gval (m.drop j)))) w7) := by
          rw [hdd.out, ← List.append_assoc, byteCells_append, ← strCells_eq (pad9 gj)]; exact .inr hB7
        have hbw7 : Below w.heap.size w w7 := (below_up (below_up hbr hb5) hb6).trans (hb7.mono (by omega))
        have hsz7 : w.heap.size + 2 ≤ w7.heap.size := by have := hb7.size; have := hb6.size; have := hb5.size; omega
        clear hB7 hb7 hb6 hb5 hB hbr hkj hdd
        go_wp2
        refine ⟨⟨j, by omega, by first | rfl | (exact congrArg (Value.int .i64) (by omega)), HB7, hbw7, hsz7⟩, by simp [intOf]⟩

theorem text_any (x : Nat) (neg : Bool) (a : Option Addr) (cap : Nat) (w : World) (hE : Env w) (hl : (groupsOf x).length ≤ cap) (hlen : (groupsOf x).length ≤ 1000000000000) (hr : Row w a (gs (groupsOf x))) :
    Calls Tryz.prog 47 #[.agg #[.bool neg, .slice a (groupsOf x).length cap]] w fun e w' => e = .returned (.string ⟨(txt neg x).toArray⟩) ∧ Below w.heap.size w w' := by
  by_cases hx : x = 0
  · subst hx
    rw [groupsOf_zero]
    exact text_zero neg a cap w
  · have hne : groupsOf x ≠ [] := by rw [Ne, groupsOf_nil_iff]; exact hx
    obtain ⟨b, off, rfl, hb, hc⟩ := hr.addr (gs_ne hne)
    have h := text_some (groupsOf x) (groupsOf_norm x) hne neg b off cap w hE hl hlen hb hc
    rw [gval_groupsOf] at h
    have e : (if neg = true then [45] else []) ++ Lib.decDigits x = txt neg x := by
      unfold txt; rw [if_neg hx]; cases neg <;> rfl
    rwa [e] at h
end Go.Proofs.YthlpfefckhdpiaaGreatDoor
