/- holding.Aging's parts: the closure, divide over ints, checkMonths over any ints. -/
import Derived.Test.YthlpfefckhdpiaaGreatDoorLotAll
import Derived.Test.YthlpfefckhdpiaaGreatDoorHold
import Derived.Maps.AppendAt
namespace Go.Proofs.YthlpfefckhdpiaaGreatDoor
open Go.RowKit Num Dt

/-- ints lie from the address a on -/
def Ints (w : World) (a : Option Addr) (zs : List Int) : Prop :=
  zs = [] ∨ ∃ b off, a = some ⟨b, off, none⟩ ∧ b < w.heap.size ∧ ∀ k z, zs[k]? = some z → w.cell? ⟨b, off + k, none⟩ = some (.int .i64 z)
theorem Ints.below {w w' : World} {a : Option Addr} {zs : List Int} (h : Ints w a zs) (hb : Below w.heap.size w w') : Ints w' a zs := by
  rcases h with h | ⟨b, off, ha, hlt, hc⟩
  · exact .inl h
  · exact .inr ⟨b, off, ha, Nat.lt_of_lt_of_le hlt hb.size, fun k z hz => (hb.cell (p := ⟨b, off + k, none⟩) hlt).trans (hc k z hz)⟩
theorem Ints.addr {w : World} {a : Option Addr} {zs : List Int} (h : Ints w a zs) {k : Nat} {z : Int} (hz : zs[k]? = some z) :
    ∃ b off, a = some ⟨b, off, none⟩ ∧ w.cell? ⟨b, off + k, none⟩ = some (.int .i64 z) := by
  rcases h with h | ⟨b, off, ha, _, hc⟩
  · rw [h] at hz; simp at hz
  · exact ⟨b, off, ha, hc k z hz⟩

/-- two rows that a call owns, in different blocks -/
def Two (w : World) (base : Nat) (e : TypeId) (size : Nat) (x y : Value) (n m : Nat) (xs ys : List Value) : Prop :=
  w.ownsRow base e size x n xs ∧ w.ownsRow base e size y m ys ∧ (x.ownBlock = none ∨ y.ownBlock = none ∨ x.ownBlock ≠ y.ownBlock)
theorem Two.swap {w : World} {base : Nat} {e : TypeId} {size : Nat} {x y : Value} {n m : Nat} {xs ys : List Value} (h : Two w base e size x y n m xs ys) : Two w base e size y x m n ys xs :=
  ⟨h.2.1, h.1, h.2.2.elim (fun e => .inr (.inl e)) (fun e => e.elim .inl (fun e => .inr (.inr (Ne.symm e))))⟩
theorem Two.below {w w' : World} {base : Nat} {e : TypeId} {size : Nat} {x y : Value} {n m : Nat} {xs ys : List Value} (h : Two w base e size x y n m xs ys) (hb : Below w.heap.size w w') : Two w' base e size x y n m xs ys :=
  have hg : w.grownBy w' none := ⟨hb.os, hb.tape, hb.output, hb.size, fun k hk _ => hb.block k hk⟩
  have hne : ∀ v : Value, v.ownBlock = none ∨ v.ownBlock ≠ none := fun _ => Classical.em _
  ⟨h.1.kept hg (hne x), h.2.1.kept hg (hne y), h.2.2⟩
theorem Two.step {w w' : World} {base : Nat} {e : TypeId} {size : Nat} {x y x' : Value} {n m n' : Nat} {xs ys xs' : List Value} (h : Two w base e size x y n m xs ys) (hx : w'.ownsRow base e size x' n' xs') (hg : w.grownBy w' x.ownBlock) (hl : x'.ownBlock = x.ownBlock ∨ x'.ownBlock = some w.heap.size) :
    Two w' base e size x' y n' m xs' ys := by
  obtain ⟨h1, h2, h3⟩ := h
  refine ⟨hx, h2.kept hg ?_, ?_⟩
  · rcases h3 with h | h | h
    · rw [h]; exact Classical.em _
    · exact .inl h
    · exact .inr (Ne.symm h)
  · rcases hl with hl | hl
    · rw [hl]; exact h3
    · cases hy : y.ownBlock with
      | none => exact .inr (.inl rfl)
      | some k =>
        have := (h2.lt k hy).2
        refine .inr (.inr ?_)
        rw [hl]
        intro e
        injection e with e
        omega
theorem grown_below {w w' : World} {base : Nat} {e : TypeId} {size : Nat} {x : Value} {n : Nat} {xs : List Value} {w0 : World} (h : w.ownsRow base e size x n xs) (hg : w.grownBy w' x.ownBlock) (hb : Below base w0 w) (hB : base ≤ w.heap.size) : Below base w0 w' :=
  hb.grown hg hB (fun k hk => (h.lt k hk).1)

set_option maxHeartbeats 1000000 in
theorem aging1_any (z aq d : Int) (B : Nat) (cs : Array Value) (T T2 : TypeId) (w : World) (B2 : Nat) (hB : Box w B cs T) (h2 : cs[2]? = some (.int .i64 aq)) (hB2 : Box w B2 #[.int .i64 d] T2) :
    Calls Tryz.prog 42 #[.int .i64 z, .pointer (some ⟨B, 0, none⟩), .pointer (some ⟨B2, 0, none⟩)] w fun e w' => e = .returned (.bool (isLong aq d z)) ∧ Below w.heap.size w w' := by
  have k2 := hB.cell 2
  rw [h2] at k2
  have k0 := hB2.cell 0
  have H := Lib.hid (fun W => long_any aq d z W)
  clear hB hB2 h2
  go_enter Tryz.func42, Tryz.ntmps42
  go_wp2_with fail
  refine (H.out _).mono ?_
  rintro e w1 ⟨rfl, hb⟩
  go_wp2
  go_ret
  exact ⟨rfl, hb⟩
theorem infoInt : (Tryz.prog.info? 3).map (fun i => (i.zero, i.size, i.bytes)) = some (some (.int .i64 0), 1, 8) := by kernel_rfl
theorem iv_append (l m : List Int) : (l ++ m).map (Value.int .i64) = l.map (Value.int .i64) ++ m.map (Value.int .i64) := List.map_append
theorem filter_take {p : Int → Bool} {zs : List Int} {k : Nat} {z : Int} (hz : zs[k]? = some z) : (zs.take (k + 1)).filter p = if p z = true then (zs.take k).filter p ++ [z] else (zs.take k).filter p := by
  rw [List.take_add_one, hz, List.filter_append]
  cases h : p z <;> simp [h]
set_option maxHeartbeats 2000000 in
set_option maxRecDepth 100000 in
theorem divide_int (B0 : Nat) (p : Int → Bool) (I : World → Prop) (hI : ∀ W W', I W → Below B0 W W' → I W') (f1 f2 : Value) (hp : ∀ z W, I W → Calls Tryz.prog 42 #[.int .i64 z, f1, f2] W fun e w' => e = .returned (.bool (p z)) ∧ Below W.heap.size W w')
    (zs : List Int) (a : Option Addr) (cap : Nat) (w : World) (hw : Ints w a zs) (h0 : I w) (hB0 : B0 ≤ w.heap.size) (hl : zs.length ≤ 1000) :
    Calls Tryz.prog 41 #[.slice a zs.length cap, .func (.func 42) #[] #[f1, f2]] w fun e w' => (∃ a1 c1 y, e = .returned (.tuple #[.slice a1 (zs.filter p).length c1, y])) ∧ Below w.heap.size w w' := by
  obtain ⟨i0, hi, hz0, hz1, hz2⟩ := info_parts infoInt
  have HI := Lib.hid (fun W W' h (hs : B0 ≤ W.heap.size) hb => hI W W' h (Below.mono hb hs))
  have HG := Lib.hid (fun W W' (h : I W) (hb : Below W.heap.size W W') W'' row (hg : W'.grownBy W'' row) (hs : B0 ≤ W.heap.size) (hr : ∀ k, row = some k → w.heap.size ≤ k) => hI W W'' h ((Below.mono hb hs).grown hg (Nat.le_trans hs hb.size) (fun k hk => Nat.le_trans hB0 (hr k hk))))
  have HP := Lib.hid hp
  have HW := Lib.hid hw
  have H0 := Lib.hid h0
  clear hI hp hw h0
  go_enter Tryz.func41, Tryz.ntmps41
  go_wp2
  go_loopw [6, 7, 12] (fun x y i W => Hid (Below w.heap.size w W) ∧ Hid (I W) ∧ ∃ k : Nat, k ≤ zs.length ∧ i = .int .i64 (k : Int) ∧ Hid (∃ m ys, Two W w.heap.size 3 1 x y ((zs.take k).filter p).length m (((zs.take k).filter p).map (Value.int .i64)) ys ∧ m ≤ k)) (fun _ _ i _ => zs.length - (intOf i).toNat)
  case atStart => exact ⟨Below.refl _ _, H0, 0, Nat.zero_le _, rfl, 0, [], ⟨⟨rfl, .inl ⟨rfl, rfl⟩⟩, ⟨rfl, .inl ⟨rfl, rfl⟩⟩, .inl rfl⟩, Nat.le_refl _⟩
  case round =>
    obtain ⟨hB, hIW, k, hk, rfl, hT⟩ := hrel
    by_cases hlt : k < zs.length
    · obtain ⟨z, hz⟩ : ∃ z, zs[k]? = some z := ⟨zs[k], List.getElem?_eq_getElem hlt⟩
      obtain ⟨b, off, ha, k0⟩ := (HW.out.below hB.out).addr hz
      subst ha
      have HF := Lib.hid (filter_take (p := p) hz)
      have HN := Lib.hid (List.length_filter_le p (zs.take k))
      clear hz
      go_wp2_with fail
      refine (HP.out z _ hIW.out).mono ?_
      rintro e w1 ⟨rfl, hb⟩
      have hs0 := hB.out.size
      have hB := Lib.hid (below_up hB.out hb)
      have hIW := Lib.hid (HI.out _ _ hIW.out (Nat.le_trans hB0 hs0) hb)
      obtain ⟨m, ys, hT, hm⟩ := hT.out
      have hT := Lib.hid (hT.below hb)
      have hs1 := hB.out.size
      clear hb k0
      have hHN := HN.out
      simp at hHN
      cases hpz : p z
      · have HF : Hid ((zs.take (k + 1)).filter p = (zs.take k).filter p) := by show _ = _; rw [HF.out, hpz]; rfl
        clear HN
        generalize (zs.take k).filter p = fs at *
        go_wp2_with (at_builtin; refine wpList_append_own_at _ rfl _ _ 31 rfl w.heap.size 3 i0 (.int .i64 0) 1 8 Tryz.underlying31 hi hz0 hz1 hz2 rfl (by decide) _ _ _ rfl (hT.out.2.1.alloc _) ⟨w1.heap.size, 0, none⟩ 1 1 [.int .i64 z] rfl rfl ?c1 ?c2 ?c3 ?c4 ?c5 ?_)
        case c1 =>
          intro j u hj
          match j, hj with
          | 0, hj => simp at hj; subst hj; simp [Addr.add]
        case c2 => intro u hu; simp at hu; subst hu; rfl
        case c3 => unfold maxLen; omega
        case c4 => omega
        case c5 => simp; omega
        intro v' w3 hown' hgrow _ hat
        have hat' : v'.ownBlock = u7.ownBlock ∨ v'.ownBlock = some (w1.alloc (.cells #[.int .i64 z] 3)).heap.size := by simpa using hat
        have hTa := (hT.out.below (below_alloc w1 (.cells #[.int .i64 z] 3))).swap
        have hT2 := Lib.hid (hTa.step hown' hgrow hat').swap
        have hB2 := Lib.hid (grown_below hTa.1 hgrow (below_up hB.out (below_alloc w1 _)) (by simp; omega))
        have hI2 := Lib.hid (HG.out _ _ hIW.out (below_alloc w1 (.cells #[.int .i64 z] 3)) _ _ hgrow (Nat.le_trans hB0 hs1) (fun k hk => (hTa.1.lt k hk).1))
        clear hat hat' hgrow hown' hTa
        go_wp2
        go_round
        case rel => exact ⟨hB2, hI2, k + 1, by omega, by go_num, m + 1, _, by rw [HF.out]; exact hT2.out, by omega⟩
        case measure => simp [intOf]; omega
      · have HF : Hid ((zs.take (k + 1)).filter p = (zs.take k).filter p ++ [z]) := by show _ = _; rw [HF.out, hpz]; rfl
        clear HN
        generalize (zs.take k).filter p = fs at *
        go_wp2_with (at_builtin; refine wpList_append_own_at _ rfl _ _ 31 rfl w.heap.size 3 i0 (.int .i64 0) 1 8 Tryz.underlying31 hi hz0 hz1 hz2 rfl (by decide) _ _ _ rfl (hT.out.1.alloc _) ⟨w1.heap.size, 0, none⟩ 1 1 [.int .i64 z] rfl rfl ?c1 ?c2 ?c3 ?c4 ?c5 ?_)
        case c1 =>
          intro j u hj
          match j, hj with
          | 0, hj => simp at hj; subst hj; simp [Addr.add]
        case c2 => intro u hu; simp at hu; subst hu; rfl
        case c3 => unfold maxLen; omega
        case c4 => omega
        case c5 => simp; omega
        intro v' w3 hown' hgrow _ hat
        have hat' : v'.ownBlock = u6.ownBlock ∨ v'.ownBlock = some (w1.alloc (.cells #[.int .i64 z] 3)).heap.size := by simpa using hat
        have hTa := (hT.out.below (below_alloc w1 (.cells #[.int .i64 z] 3)))
        have hT2 := Lib.hid (hTa.step hown' hgrow hat')
        have hB2 := Lib.hid (grown_below hTa.1 hgrow (below_up hB.out (below_alloc w1 _)) (by simp; omega))
        have hI2 := Lib.hid (HG.out _ _ hIW.out (below_alloc w1 (.cells #[.int .i64 z] 3)) _ _ hgrow (Nat.le_trans hB0 hs1) (fun k hk => (hTa.1.lt k hk).1))
        clear hat hat' hgrow hown' hTa
        go_wp2
        go_round
        case rel => exact ⟨hB2, hI2, k + 1, by omega, by go_num, m, _, by rw [HF.out, iv_append]; simpa using hT2.out, by omega⟩
        case measure => simp [intOf]; omega
    · obtain rfl : k = zs.length := by omega
      obtain ⟨m, ys, hT, hm⟩ := hT.out
      obtain ⟨a1, c1, e1, _⟩ := row_of_owns hT.1
      rw [List.take_length] at e1
      subst e1
      go_wp2
      go_ret2
      exact ⟨⟨a1, c1, _, rfl⟩, hB.out⟩
end Go.Proofs.YthlpfefckhdpiaaGreatDoor
