/- What the costs by age add up to. -/
import Derived.Test.YthlpfefckhdpiaaGreatDoorAging
namespace Go.Proofs.YthlpfefckhdpiaaGreatDoor
open Go.RowKit Num Dt

theorem ageAll_some {d : Int} {zs : List Int} : ∀ (ls : List LotP) (out : List (List UInt8)), (∀ x, x ∈ ls → x.acq ≤ d) → ageAll d zs out ls = some (ls.foldl (fun o x => addAt o (olds d zs x) x.c) out)
  | [], out, _ => rfl
  | x :: r, out, h => by
    rw [ageAll, if_neg (by have := h x (by simp); omega), ageAll_some r _ (fun y hy => h y (by simp [hy]))]; rfl
theorem ageAll_none {d : Int} {zs : List Int} : ∀ (ls : List LotP) (out : List (List UInt8)), (∃ x, x ∈ ls ∧ d < x.acq) → ageAll d zs out ls = none
  | [], out, h => by obtain ⟨x, hx, _⟩ := h; simp at hx
  | x :: r, out, h => by
    rw [ageAll]
    split
    · rfl
    · rename_i g
      refine ageAll_none r _ ?_
      obtain ⟨y, hy, hd⟩ := h
      rcases List.mem_cons.1 hy with e | hy
      · subst e; exact absurd hd g
      · exact ⟨y, hy, hd⟩
def total (l : List (List UInt8)) : Int := (l.map val).sum
theorem total_cons (s : List UInt8) (l : List (List UInt8)) : total (s :: l) = val s + total l := by simp [total]
theorem total_set (s : List UInt8) : ∀ (l : List (List UInt8)) (n : Nat), n < l.length → total (l.set n s) = total l - val (l.getD n []) + val s
  | [], n, h => by simp at h
  | t :: l, 0, _ => by simp [total_cons]; omega
  | t :: l, n + 1, h => by
    rw [List.set_cons_succ, total_cons, total_cons, total_set s l n (by simpa using h)]
    simp; omega
theorem addAt_total {out : List (List UInt8)} {n : Nat} (c : List UInt8) (h : n < out.length) : total (addAt out n c) = total out + val c := by
  unfold addAt; rw [total_set _ _ _ h, val_canon]; omega
theorem addAt_length (out : List (List UInt8)) (n : Nat) (c : List UInt8) : (addAt out n c).length = out.length := by unfold addAt; simp
def costs (ls : List LotP) : Int := (ls.map (fun x => val x.c)).sum
theorem fold_all (d : Int) (zs : List Int) : ∀ (ls : List LotP) (out : List (List UInt8)) (k : Nat), out.length = zs.length + 1 → (∀ s, s ∈ out → canon (val s) = s ∧ s.length ≤ 1000 + 2 * k) → (∀ x, x ∈ ls → x.c.length ≤ 1000) →
    (ls.foldl (fun o x => addAt o (olds d zs x) x.c) out).length = zs.length + 1 ∧ total (ls.foldl (fun o x => addAt o (olds d zs x) x.c) out) = total out + costs ls ∧
    ∀ s, s ∈ ls.foldl (fun o x => addAt o (olds d zs x) x.c) out → canon (val s) = s ∧ s.length ≤ 1000 + 2 * (k + ls.length)
  | [], out, k, h, hc, _ => ⟨h, by simp [costs], fun s hs => ⟨(hc s hs).1, by have := (hc s hs).2; simp; omega⟩⟩
  | x :: r, out, k, h, hc, hx => by
    have ho := olds_le d zs x
    have hs : out.getD (olds d zs x) [] ∈ out := by rw [List.getD_eq_getElem?_getD, List.getElem?_eq_getElem (show olds d zs x < out.length by omega)]; simp
    have ih := fold_all d zs r (addAt out (olds d zs x) x.c) (k + 1) (by rw [addAt_length]; exact h) (fun s hm => by
      unfold addAt at hm
      rcases List.mem_or_eq_of_mem_set hm with hm | hm
      · exact ⟨(hc s hm).1, by have := (hc s hm).2; omega⟩
      · rw [hm, val_canon]
        refine ⟨rfl, ?_⟩
        have h1 := (hc _ hs).2
        have h2 := hx x (by simp)
        have := add_len (K := 1000 + 2 * k) h1 (show x.c.length ≤ _ by omega)
        omega) (fun y hy => hx y (by simp [hy]))
    obtain ⟨i1, i2, i3⟩ := ih
    refine ⟨i1, ?_, fun s hs => ⟨(i3 s hs).1, by have := (i3 s hs).2; simp only [List.length_cons]; omega⟩⟩
    rw [List.foldl_cons, i2, addAt_total _ (by omega)]
    simp [costs]; omega
noncomputable def ages (d : Int) (zs : List Int) (ls : List LotP) : List (List UInt8) := ls.foldl (fun o x => addAt o (olds d zs x) x.c) (List.replicate (zs.length + 1) [])
theorem ages_spec (d : Int) (zs : List Int) (ls : List LotP) (hx : ∀ x, x ∈ ls → x.c.length ≤ 1000) : (ages d zs ls).length = zs.length + 1 ∧ total (ages d zs ls) = costs ls ∧ ∀ s, s ∈ ages d zs ls → canon (val s) = s ∧ s.length ≤ 1000 + 2 * ls.length := by
  have h0 : total (List.replicate (zs.length + 1) []) = 0 := by
    unfold total; rw [List.map_replicate, val_nil]; simp
  have h := fold_all d zs ls (List.replicate (zs.length + 1) []) 0 (by simp) (fun s hs => by rw [List.eq_of_mem_replicate hs, val_nil, canon_zero]; simp) hx
  rw [h0] at h
  refine ⟨h.1, by have := h.2.1; unfold ages; omega, fun s hs => ⟨(h.2.2 s hs).1, by have := (h.2.2 s hs).2; omega⟩⟩
theorem aging_ok {ls : List LotP} {d : Int} {zs : List Int} (h1 : scanErr [] ls = 0) (h2 : zs.any bad = false) (h3 : vday d = true) (h4 : falls zs = false) (h5 : ∀ x, x ∈ ls → x.acq ≤ d) : aging ls d zs = (ages d zs ls, 0) := by
  unfold aging; rw [if_neg (by simp [h1]), if_neg (by simp [h2]), if_neg (by simp [h3]), if_neg (by simp [h4]), ageAll_some _ _ h5]; rfl
theorem aging_late {ls : List LotP} {d : Int} {zs : List Int} (h1 : scanErr [] ls = 0) (h2 : zs.any bad = false) (h3 : vday d = true) (h4 : falls zs = false) (h5 : ∃ x, x ∈ ls ∧ d < x.acq) : aging ls d zs = ([], 8) := by
  unfold aging; rw [if_neg (by simp [h1]), if_neg (by simp [h2]), if_neg (by simp [h3]), if_neg (by simp [h4]), ageAll_none _ _ h5]; rfl
theorem list1 {α : Type} {l : List α} (h : l.length = 1) : ∃ a, l = [a] := by
  match l, h with
  | [a], _ => exact ⟨a, rfl⟩
theorem list2 {α : Type} {l : List α} (h : l.length = 2) : ∃ a b, l = [a, b] := by
  match l, h with
  | [a, b], _ => exact ⟨a, b, rfl⟩
theorem scan_errs : ∀ (ls pre : List LotP), scanErr pre ls = 0 → ∀ x, x ∈ ls → x.err = 0
  | [], pre, _, x, hx => by simp at hx
  | y :: r, pre, h, x, hx => by
    rw [scanErr] at h
    split at h
    · rename_i g; exact absurd h g
    · rename_i g
      split at h
      · cases h
      · rcases List.mem_cons.1 hx with e | hx
        · subst e; exact Classical.not_not.1 g
        · exact scan_errs r _ h x hx
theorem err_days {x : LotP} (h : x.err = 0) : vday x.acq = true ∧ vday x.opn = true ∧ x.acq ≤ x.opn := by
  unfold LotP.err at h
  split at h
  · cases h
  · split at h
    · cases h
    · rename_i g
      split at h
      · cases h
      · rename_i g2
        cases h1 : vday x.acq <;> cases h2 : vday x.opn <;> simp [h1, h2] at g
        exact ⟨rfl, rfl, by omega⟩
/-- all that the law of the ages compares -/
theorem ages_law {ls : List LotP} {d m : Int} (h1 : scanErr [] ls = 0) (h3 : vday d = true) (hm0 : 0 ≤ m) (hm1 : m ≤ 120) (h5 : ∀ x, x ∈ ls → x.acq ≤ d) (hx : ∀ x, x ∈ ls → x.c.length ≤ 1000) (hn : ls.length ≤ 12) :
    ∃ s s0 s1 all, aging ls d [] = ([s], 0) ∧ aging ls d [m] = ([s0, s1], 0) ∧ aging ls d [0, 1, 5, 12, 60] = (all, 0) ∧ all.length = 6 ∧ ageAll d [m] [[], []] ls = some [s0, s1] ∧ canon (val s0 + val s1) = s ∧ canon (total all) = s ∧
      s0.length ≤ 1100 ∧ s1.length ≤ 1100 ∧ ∀ u, u ∈ all → u.length ≤ 1100 := by
  obtain ⟨a1, a2, a3⟩ := ages_spec d [] ls hx
  obtain ⟨b1, b2, b3⟩ := ages_spec d [m] ls hx
  obtain ⟨c1, c2, c3⟩ := ages_spec d [0, 1, 5, 12, 60] ls hx
  obtain ⟨s, hs⟩ := list1 a1
  obtain ⟨s0, s1, hss⟩ := list2 b1
  have e0 : ages d [m] ls = ls.foldl (fun o x => addAt o (olds d [m] x) x.c) [[], []] := rfl
  refine ⟨s, s0, s1, ages d [0, 1, 5, 12, 60] ls, ?_, ?_, ?_, by simpa using c1, ?_, ?_, ?_, ?_, ?_, ?_⟩
  · rw [aging_ok h1 rfl h3 rfl h5, hs]
  · rw [aging_ok h1 (by simp [bad]; omega) h3 rfl h5, hss]
  · exact aging_ok h1 (by decide) h3 (by decide) h5
  · rw [ageAll_some _ _ h5, ← e0, hss]
  · rw [hs] at a2 a3
    rw [hss] at b2
    rw [← (a3 s (by simp)).1]
    congr 1
    simp [total] at a2 b2
    omega
  · rw [hs] at a2 a3
    rw [← (a3 s (by simp)).1]
    congr 1
    simp [total] at a2
    omega
  · have := (b3 s0 (by rw [hss]; simp)).2; omega
  · have := (b3 s1 (by rw [hss]; simp)).2; omega
  · intro u hu; have := (c3 u hu).2; omega
theorem not_great {ls : List LotP} (h : greats ls = false) : ∀ x, x ∈ ls → x.small := by
  intro x hx
  unfold greats at h
  have h2 : ls.any LotP.great = false := (Bool.or_eq_false_iff.1 h).2
  rw [List.any_eq_false] at h2
  have := h2 x hx
  unfold LotP.great at this
  simp at this
  unfold LotP.small
  omega
end Go.Proofs.YthlpfefckhdpiaaGreatDoor
