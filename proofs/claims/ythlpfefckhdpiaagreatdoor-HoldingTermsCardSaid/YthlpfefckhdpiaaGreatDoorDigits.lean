/- integer.digits, Canonical, Check: what they return of a text. -/
import Derived.Test.YthlpfefckhdpiaaGreatDoorMem
import Derived.Test.YthlpfefckhdpiaaGreatDoorInt
import Derived.Test.YthlpfefckhdpiaaGreatDoorShelf
import Derived.Shelf.Strings.SlTrimAscii
namespace Go.Proofs.YthlpfefckhdpiaaGreatDoor
open Go.RowKit Num

theorem isDig_contains (c : UInt8) : ([48, 49, 50, 51, 52, 53, 54, 55, 56, 57] : List UInt8).contains c = isDig c := by
  rw [Bool.eq_iff_iff, isDig_iff]
  simp only [List.contains_iff_mem, List.mem_cons, List.not_mem_nil, or_false]
  constructor
  · rintro (rfl | rfl | rfl | rfl | rfl | rfl | rfl | rfl | rfl | rfl) <;> decide
  · intro h
    have h2 : c.toNat = 48 ∨ c.toNat = 49 ∨ c.toNat = 50 ∨ c.toNat = 51 ∨ c.toNat = 52 ∨ c.toNat = 53 ∨ c.toNat = 54 ∨ c.toNat = 55 ∨ c.toNat = 56 ∨ c.toNat = 57 := by omega
    rcases h2 with h | h | h | h | h | h | h | h | h | h
    · exact .inl (UInt8.toNat_inj.1 h)
    · exact .inr (.inl (UInt8.toNat_inj.1 h))
    · exact .inr (.inr (.inl (UInt8.toNat_inj.1 h)))
    · exact .inr (.inr (.inr (.inl (UInt8.toNat_inj.1 h))))
    · exact .inr (.inr (.inr (.inr (.inl (UInt8.toNat_inj.1 h)))))
    · exact .inr (.inr (.inr (.inr (.inr (.inl (UInt8.toNat_inj.1 h))))))
    · exact .inr (.inr (.inr (.inr (.inr (.inr (.inl (UInt8.toNat_inj.1 h)))))))
    · exact .inr (.inr (.inr (.inr (.inr (.inr (.inr (.inl (UInt8.toNat_inj.1 h))))))))
    · exact .inr (.inr (.inr (.inr (.inr (.inr (.inr (.inr (.inl (UInt8.toNat_inj.1 h)))))))))
    · exact .inr (.inr (.inr (.inr (.inr (.inr (.inr (.inr (.inr (UInt8.toNat_inj.1 h)))))))))
theorem dropWhile_nil_iff (p : UInt8 → Bool) (l : List UInt8) : l.dropWhile p = [] ↔ l.all p = true := by
  induction l with
  | nil => simp
  | cons c r ih =>
    rw [List.dropWhile_cons]
    by_cases h : p c = true
    · rw [if_pos h, ih]; simp [h]
    · rw [if_neg h]; simp [h]
theorem trimS_nil_iff (l cs : List UInt8) : Lib.trimS l cs = [] ↔ l.all (cs.contains ·) = true := by
  unfold Lib.trimS Lib.trimLeftS Lib.trimRightS
  rw [dropWhile_nil_iff, List.all_reverse]
  constructor
  · intro h
    have h2 : (l.reverse.dropWhile (cs.contains ·)) = [] := by
      cases hd : l.reverse.dropWhile (cs.contains ·) with
      | nil => rfl
      | cons c r =>
        rw [hd] at h
        have hc : cs.contains c = true := by simp at h ⊢; exact h.1
        have := List.head?_dropWhile_not (cs.contains ·) l.reverse
        rw [hd] at this
        simp at this hc
        exact absurd hc this
    rw [dropWhile_nil_iff, List.all_reverse] at h2
    exact h2
  · intro h
    have h2 : l.reverse.dropWhile (cs.contains ·) = [] := by rw [dropWhile_nil_iff, List.all_reverse]; exact h
    rw [h2]; rfl
theorem trimS_digits (l : List UInt8) : Lib.trimS l [48, 49, 50, 51, 52, 53, 54, 55, 56, 57] = [] ↔ l.all isDig = true := by
  rw [trimS_nil_iff]
  have : (fun c => ([48, 49, 50, 51, 52, 53, 54, 55, 56, 57] : List UInt8).contains c) = isDig := funext isDig_contains
  rw [this]
theorem body_eq (l : List UInt8) : Lib.trimPrefix l [45] = body l := by
  unfold Lib.trimPrefix body Lib.hasPrefix
  cases l with
  | nil => rfl
  | cons c r =>
    by_cases h : c = 45
    · subst h; simp
    · simp [h, Ne.symm h]
theorem minus_eq (l : List UInt8) : Lib.hasPrefix l [45] = minus l := by
  unfold minus Lib.hasPrefix
  cases l with
  | nil => rfl
  | cons c r =>
    by_cases h : c = 45
    · subst h; simp
    · simp [h, List.isPrefixOf]; exact fun e => absurd e.symm h

theorem body_le (l : List UInt8) : (body l).length ≤ l.length := by unfold body; split <;> simp
theorem digs_le (l : List UInt8) : (digs l).length ≤ l.length := by
  unfold digs
  split
  · exact Nat.le_trans (List.dropWhile_sublist _).length_le (body_le l)
  · simp
attribute [local go_sem] str_append
theorem cutMinus (l : List UInt8) (w : World) :
    Calls Tryz.prog 120 #[.string ⟨l.toArray⟩, .string ⟨#[45]⟩] w fun e w' => e = .returned (.tuple #[.string ⟨(body l).toArray⟩, .bool (minus l)]) ∧ w = w' :=
  (Tryz.strings_CutPrefix ⟨l.toArray⟩ ⟨#[45]⟩ w).mono fun e w' ⟨he, hw⟩ => ⟨by rw [he, ← body_eq, ← minus_eq], hw.symm⟩
theorem trimDigits (l : List UInt8) (w : World) (hl : l.length ≤ 9000000000000000000) :
    Calls Tryz.prog 121 #[.string ⟨l.toArray⟩, .string ⟨#[48, 49, 50, 51, 52, 53, 54, 55, 56, 57]⟩] w fun e w' => e = .returned (.string ⟨(Lib.trimS l [48, 49, 50, 51, 52, 53, 54, 55, 56, 57]).toArray⟩) ∧ Below w.heap.size w w' :=
  (Any.strings_Trim_laid Tryz.lays160 (by kernel_rfl) ⟨l.toArray⟩ ⟨#[48, 49, 50, 51, 52, 53, 54, 55, 56, 57]⟩ w (by rw [str_size]; omega) (by decide) (ascii_of_all (by decide))).mono fun e w' ⟨he, hw⟩ => ⟨by rw [he], hw⟩
theorem trimZeros (l : List UInt8) (w : World) :
    Calls Tryz.prog 122 #[.string ⟨l.toArray⟩, .string ⟨#[48]⟩] w fun e w' => e = .returned (.string ⟨(l.dropWhile (· == 48)).toArray⟩) ∧ w = w' :=
  (Tryz.strings_TrimLeft_one ⟨l.toArray⟩ 48 (by decide) w).mono fun e w' ⟨he, hw⟩ => ⟨by rw [he]; rfl, hw.symm⟩

theorem digits_any (l : List UInt8) (w : World) (hl : l.length ≤ 9000000000000000000) :
    Calls Tryz.prog 82 #[.string ⟨l.toArray⟩] w fun e w' => e = .returned (.tuple #[.string ⟨(digs l).toArray⟩, .bool (negs l)]) ∧ Below w.heap.size w w' := by
  have H1 := Lib.hid (fun W => cutMinus l W)
  have H2 := Lib.hid (fun W => trimDigits (body l) W (by have := body_le l; omega))
  have H3 := Lib.hid (fun W => trimZeros (body l) W)
  have hd := Lib.hid (show digs l = if (body l).all isDig = true then (body l).dropWhile (· == 48) else [] from rfl)
  have hng := Lib.hid (show negs l = (minus l && !(digs l).isEmpty) from rfl)
  have ht := trimS_digits (body l)
  generalize Lib.trimS (body l) [48, 49, 50, 51, 52, 53, 54, 55, 56, 57] = t at *
  generalize (body l).dropWhile (· == 48) = t2 at *
  generalize body l = bl at *
  generalize minus l = mi at *
  by_cases hall : bl.all isDig = true
  · obtain rfl := ht.2 hall
    have e1 : digs l = t2 := by rw [hd.out, if_pos hall]
    rw [e1] at hng ⊢
    clear ht hall hd e1
    by_cases hmi : mi = true
    · subst hmi
      go_enter Tryz.func82, Tryz.ntmps82
      go_wp2_with (first | (go_at_call 120; refine (H1.out _).mono ?_; rintro e w1 ⟨rfl, rfl⟩) | (go_at_call 121; refine (H2.out _).mono ?_; rintro e w2 ⟨rfl, hb2⟩) | (go_at_call 122; refine (H3.out _).mono ?_; rintro e w3 ⟨rfl, rfl⟩))
      go_ret2
      exact ⟨by rw [hng.out]; simp, hb2⟩
    · have hmi : mi = false := by simpa using hmi
      subst hmi
      go_enter Tryz.func82, Tryz.ntmps82
      go_wp2_with (first | (go_at_call 120; refine (H1.out _).mono ?_; rintro e w1 ⟨rfl, rfl⟩) | (go_at_call 121; refine (H2.out _).mono ?_; rintro e w2 ⟨rfl, hb2⟩) | (go_at_call 122; refine (H3.out _).mono ?_; rintro e w3 ⟨rfl, rfl⟩))
      go_ret2
      exact ⟨by rw [hng.out]; simp, hb2⟩
  · have e1 : digs l = [] := by rw [hd.out, if_neg hall]
    have e2 : t ≠ [] := fun h => hall (ht.1 h)
    have e3 : t.isEmpty = false := by simpa using e2
    rw [e1] at hng ⊢
    have hn : negs l = false := by rw [hng.out]; simp
    rw [hn]
    clear hall ht hd hng e1 e2 hn
    go_enter Tryz.func82, Tryz.ntmps82
    go_wp2_with (first | (go_at_call 120; refine (H1.out _).mono ?_; rintro e w1 ⟨rfl, rfl⟩) | (go_at_call 121; refine (H2.out _).mono ?_; rintro e w2 ⟨rfl, hb2⟩) | (go_at_call 122; refine (H3.out _).mono ?_; rintro e w3 ⟨rfl, rfl⟩))
    go_ret2
    exact ⟨rfl, hb2⟩

theorem Canonical_any (l : List UInt8) (w : World) (hl : l.length ≤ 9000000000000000000) :
    Calls Tryz.prog 144 #[.string ⟨l.toArray⟩] w fun e w' => e = .returned (.string ⟨(canon (val l)).toArray⟩) ∧ Below w.heap.size w w' := by
  have H := Lib.hid (fun W => digits_any l W hl)
  have hc := Lib.hid (canon_val l)
  have hdl := digs_le l
  generalize digs l = d at *
  by_cases hn : negs l = true
  · rw [hn] at H hc
    clear hn
    go_enter Tryz.func144, Tryz.ntmps144
    go_wp2_with (go_at_call 82; refine (H.out _).mono ?_; rintro e w2 ⟨rfl, hb2⟩)
    go_ret
    exact ⟨by rw [hc.out]; simp, hb2⟩
  · have hn' : negs l = false := by simpa using hn
    rw [hn'] at H hc
    clear hn hn'
    go_enter Tryz.func144, Tryz.ntmps144
    go_wp2_with (go_at_call 82; refine (H.out _).mono ?_; rintro e w2 ⟨rfl, hb2⟩)
    go_ret
    exact ⟨by rw [hc.out]; simp, hb2⟩
theorem Check_any (l : List UInt8) (w : World) (hl : l.length ≤ 9000000000000000000) :
    Calls Tryz.prog 104 #[.string ⟨l.toArray⟩] w fun e w' => e = .returned (.int .i64 (if canon (val l) = l then 0 else 1)) ∧ Below w.heap.size w w' := by
  have H := Lib.hid (fun W => Canonical_any l W hl)
  generalize canon (val l) = c at *
  by_cases hc : c = l
  · subst hc
    rw [if_pos rfl]
    go_enter Tryz.func104, Tryz.ntmps104
    go_wp2_with (go_at_call 144; refine (H.out _).mono ?_; rintro e w2 ⟨rfl, hb2⟩)
    go_ret
    exact ⟨rfl, hb2⟩
  · rw [if_neg hc]
    have h1 : (l == c) = false := by simp; exact fun h => hc h.symm
    clear hc
    go_enter Tryz.func104, Tryz.ntmps104
    go_wp2_with (go_at_call 144; refine (H.out _).mono ?_; rintro e w2 ⟨rfl, hb2⟩)
    go_ret
    exact ⟨rfl, hb2⟩
end Go.Proofs.YthlpfefckhdpiaaGreatDoor
