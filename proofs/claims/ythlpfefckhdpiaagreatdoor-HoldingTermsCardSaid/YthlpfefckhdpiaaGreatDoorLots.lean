/- trancheref19: Great, Find, CheckAll over lots. -/
import Derived.Test.YthlpfefckhdpiaaGreatDoorRef19
namespace Go.Proofs.YthlpfefckhdpiaaGreatDoor
open Go.RowKit Num
attribute [local go_sem] str_append str_extract str_size

def LotP.fits (x : LotP) : Prop := x.id.length ≤ 9223372036854775807 ∧ x.ins.length ≤ 9223372036854775807 ∧ x.q.length ≤ 9223372036854775807 ∧ x.c.length ≤ 9223372036854775807 ∧ x.u.length ≤ 9223372036854775807
theorem any_take_false {α : Type} {p : α → Bool} {l : List α} {k : Nat} {x : α} (hx : l[k]? = some x) (h : (l.take k).any p = false) (hp : p x = false) : (l.take (k + 1)).any p = false := by
  rw [List.take_add_one, hx]
  simp [List.any_append, h, hp]
theorem any_hit {α : Type} {p : α → Bool} {l : List α} {k : Nat} {x : α} (hx : l[k]? = some x) (hp : p x = true) : l.any p = true := by
  rw [List.any_eq_true]; exact ⟨x, List.mem_of_getElem? hx, hp⟩
/-- what Great says of the number of lots -/
def many (n : Nat) : Bool := decide (12 < n ∧ n < 999 ∨ 1002 < n)
def greats (ls : List LotP) : Bool := many ls.length || ls.any LotP.great
set_option maxHeartbeats 2000000 in
set_option maxRecDepth 100000 in
theorem great_any (ls : List LotP) (a : Option Addr) (c : Nat) (w : World) (hn : ls.length ≤ 9223372036854775807) (hw : Lots w a ls) (hs : ∀ x, x ∈ ls → x.fits) :
    Calls Tryz.prog 8 #[.slice a ls.length c] w fun e w' => e = .returned (.bool (greats ls)) ∧ Below w.heap.size w w' := by
  have HS := Lib.hid hs
  have HW := Lib.hid hw
  have HG := Lib.hid (show greats ls = (decide (12 < ls.length ∧ ls.length < 999 ∨ 1002 < ls.length) || ls.any LotP.great) from rfl)
  clear hs hw
  have hc : (12 < ls.length ∧ ls.length < 999) ∨ 1002 < ls.length ∨ (ls.length ≤ 12) ∨ (999 ≤ ls.length ∧ ls.length ≤ 1002) := by omega
  rcases hc with ⟨g1, g2⟩ | g1 | g1 | ⟨g1, g2⟩
  · have h1 : (12 : Int) < ls.length := by omega
    have h2 : (ls.length : Int) < 999 := by omega
    go_enter Tryz.func8, Tryz.ntmps8
    go_wp2
    go_ret
    exact ⟨ret_bool (by rw [HG.out]; simp; omega), Below.refl _ _⟩
  · have h1 : (12 : Int) < ls.length := by omega
    have h2 : ¬ (ls.length : Int) < 999 := by omega
    have h3 : (1002 : Int) < ls.length := by omega
    go_enter Tryz.func8, Tryz.ntmps8
    go_wp2
    go_ret
    exact ⟨ret_bool (by rw [HG.out]; simp; omega), Below.refl _ _⟩
  all_goals
    have HG : Hid (greats ls = ls.any LotP.great) := by
      show _ = _
      rw [HG.out, decide_eq_false (by omega)]; rfl
    have h1 : ¬ (1002 : Int) < ls.length := by omega
    first | (have h2 : ¬ (12 : Int) < ls.length := by omega) | (have h2 : ¬ (ls.length : Int) < 999 := (by omega); have h3 : (12 : Int) < ls.length := (by omega))
    go_enter Tryz.func8, Tryz.ntmps8
    go_wp2
    go_loopw [3] (fun i W => Hid (Below w.heap.size w W) ∧ ∃ k : Nat, k ≤ ls.length ∧ i = .int .i64 (k : Int) ∧ Hid ((ls.take k).any LotP.great = false)) (fun i _ => ls.length - (intOf i).toNat)
    case atStart => exact ⟨Below.refl _ _, 0, Nat.zero_le _, rfl, rfl⟩
    case round =>
      obtain ⟨hB, k, hk, rfl, hp⟩ := hrel
      by_cases hlt : k < ls.length
      · obtain ⟨x, hx⟩ : ∃ x, ls[k]? = some x := ⟨ls[k], List.getElem?_eq_getElem hlt⟩
        obtain ⟨b, off, ha, k0, k1, k2, k3, k4, k5, k6⟩ := (HW.out.below hB.out).addr hx
        subst ha
        have hm := HS.out x (List.mem_of_getElem? hx)
        have H := Lib.hid (fun W => greatOne_any x W hm.1 hm.2.1 hm.2.2.1 hm.2.2.2.1 hm.2.2.2.2)
        have HX := Lib.hid (fun h => any_hit (p := LotP.great) hx h)
        have HY := Lib.hid (fun h => any_take_false (p := LotP.great) hx hp.out h)
        clear hx hm
        go_wp2_with fail
        refine (H.out _).mono ?_
        rintro e w1 ⟨rfl, hb⟩
        cases hr : x.great
        · go_wp2
          go_round
          case rel => exact ⟨below_up hB.out hb, k + 1, by omega, by go_num, HY.out hr⟩
          case measure => simp [intOf]; omega
        · go_wp2
          go_ret
          exact ⟨ret_bool (by rw [HG.out, HX.out hr]), below_up hB.out hb⟩
      · obtain rfl : k = ls.length := by omega
        go_wp2
        go_ret
        exact ⟨ret_bool (by rw [HG.out, ← hp.out, List.take_length]), hB.out⟩

set_option maxHeartbeats 2000000 in
set_option maxRecDepth 100000 in
theorem rfind_any (ls : List LotP) (id : List UInt8) (a : Option Addr) (c : Nat) (w : World) (hn : ls.length ≤ 9223372036854775807) (hw : Lots w a ls) :
    Calls Tryz.prog 35 #[.slice a ls.length c, .string ⟨id.toArray⟩] w fun e w' => (∃ n, e = .returned (.tuple #[.int .i64 n, .bool (ls.any fun y => y.id == id)])) ∧ w = w' := by
  have HW := Lib.hid hw
  clear hw
  go_enter Tryz.func35, Tryz.ntmps35
  go_wp2
  go_loop [6] (fun i => ∃ k : Nat, k ≤ ls.length ∧ i = .int .i64 (k : Int) ∧ Hid ((ls.take k).any (fun y => y.id == id) = false)) (fun i => ls.length - (intOf i).toNat)
  case atStart => exact ⟨0, Nat.zero_le _, rfl, rfl⟩
  case round =>
    obtain ⟨k, hk, rfl, hp⟩ := hrel
    by_cases hlt : k < ls.length
    · obtain ⟨x, hx⟩ : ∃ x, ls[k]? = some x := ⟨ls[k], List.getElem?_eq_getElem hlt⟩
      obtain ⟨b, off, ha, k0, _⟩ := HW.out.addr hx
      subst ha
      have HX := Lib.hid (fun h => any_hit (p := fun y => y.id == id) hx h)
      have HY := Lib.hid (fun h => any_take_false (p := fun y => y.id == id) hx hp.out h)
      clear hx
      obtain ⟨xi, xn, xa, xo, xq, xc, xu⟩ := x
      by_cases g : xi = id
      · subst g
        go_wp2
        go_ret2
        refine ⟨⟨(k : Int), ?_⟩, rfl⟩
        rw [HX.out (by simp)]
        rfl
      · have G := Lib.hid g
        have g' : (xi == id) = false := by simpa using g
        go_wp2
        go_round
        case rel => exact ⟨k + 1, by omega, by go_num, HY.out (by simpa using G.out)⟩
        case measure => simp [intOf]; omega
    · obtain rfl : k = ls.length := by omega
      go_wp2
      go_ret2
      refine ⟨⟨0, ?_⟩, rfl⟩
      have := hp.out
      rw [List.take_length] at this
      rw [this]
      rfl

def scanErr : List LotP → List LotP → Int
  | _, [] => 0
  | pre, x :: r => if x.err ≠ 0 then x.err else if pre.any (fun y => y.id == x.id) = true then 5 else scanErr (pre ++ [x]) r
def lotsErr (ls : List LotP) : Int := if 1000 < ls.length then 4 else scanErr [] ls
theorem drop_at {α : Type} {l : List α} {k : Nat} {x : α} (hx : l[k]? = some x) : l.drop k = x :: l.drop (k + 1) := by
  obtain ⟨h, e⟩ := List.getElem?_eq_some_iff.1 hx
  rw [List.drop_eq_getElem_cons h, e]
theorem take_at {α : Type} {l : List α} {k : Nat} {x : α} (hx : l[k]? = some x) : l.take k ++ [x] = l.take (k + 1) := by
  rw [List.take_add_one, hx]; rfl
theorem scan_bad {ls : List LotP} {k : Nat} {x : LotP} {r : Int} (hx : ls[k]? = some x) (h : r = scanErr (ls.take k) (ls.drop k)) (he : x.err ≠ 0) : r = x.err := by
  rw [h, drop_at hx, scanErr, if_pos he]
theorem scan_dup {ls : List LotP} {k : Nat} {x : LotP} {r : Int} (hx : ls[k]? = some x) (h : r = scanErr (ls.take k) (ls.drop k)) (he : x.err = 0) (hd : (ls.take k).any (fun y => y.id == x.id) = true) : r = 5 := by
  rw [h, drop_at hx, scanErr, if_neg (by simp [he]), if_pos hd]
theorem scan_next {ls : List LotP} {k : Nat} {x : LotP} {r : Int} (hx : ls[k]? = some x) (h : r = scanErr (ls.take k) (ls.drop k)) (he : x.err = 0) (hd : (ls.take k).any (fun y => y.id == x.id) = false) : r = scanErr (ls.take (k + 1)) (ls.drop (k + 1)) := by
  rw [h, drop_at hx, scanErr, if_neg (by simp [he]), if_neg (by simp [hd]), take_at hx]
def LotP.small (x : LotP) : Prop := x.id.length ≤ 1000 ∧ x.ins.length ≤ 1000 ∧ x.q.length ≤ 1000 ∧ x.c.length ≤ 1000 ∧ x.u.length ≤ 1000
theorem Lots.take {w : World} {a : Option Addr} {ls : List LotP} (h : Lots w a ls) (k : Nat) : Lots w a (ls.take k) := by
  rcases h with h | ⟨b, off, ha, hlt, hc⟩
  · exact .inl (by rw [h]; simp)
  · refine .inr ⟨b, off, ha, hlt, fun j x hx => hc j x ?_⟩
    rw [List.getElem?_take] at hx
    split at hx
    · exact hx
    · cases hx

set_option maxHeartbeats 2000000 in
set_option maxRecDepth 100000 in
theorem rcheckAll_any (ls : List LotP) (a : Option Addr) (c : Nat) (w : World) (hn : ls.length ≤ 12) (hcap : ls.length ≤ c) (hw : Lots w a ls) (hs : ∀ x, x ∈ ls → x.small) :
    Calls Tryz.prog 9 #[.slice a ls.length c] w fun e w' => e = .returned (.int .i64 (scanErr [] ls)) ∧ Below w.heap.size w w' := by
  have HS := Lib.hid hs
  have HW := Lib.hid hw
  clear hs hw
  have HG : ∃ r, r = scanErr [] ls := ⟨_, rfl⟩
  obtain ⟨r, hr⟩ := HG
  rw [← hr]
  have HG := Lib.hid hr
  clear hr
  go_enter Tryz.func9, Tryz.ntmps9
  go_wp2
  go_loopw [3] (fun i W => Hid (Below w.heap.size w W) ∧ ∃ k : Nat, k ≤ ls.length ∧ i = .int .i64 (k : Int) ∧ Hid (r = scanErr (ls.take k) (ls.drop k))) (fun i _ => ls.length - (intOf i).toNat)
  case atStart => exact ⟨Below.refl _ _, 0, Nat.zero_le _, rfl, HG⟩
  case round =>
    obtain ⟨hB, k, hk, rfl, hp⟩ := hrel
    by_cases hlt : k < ls.length
    · obtain ⟨x, hx⟩ : ∃ x, ls[k]? = some x := ⟨ls[k], List.getElem?_eq_getElem hlt⟩
      have hLw := HW.out.below hB.out
      have HF := Lib.hid (fun W (hWW : Below wr.heap.size wr W) c' => show Calls Tryz.prog 35 #[.slice a k c', .string ⟨x.id.toArray⟩] W (fun e w' => (∃ n, e = .returned (.tuple #[.int .i64 n, .bool ((ls.take k).any fun y => y.id == x.id)])) ∧ W = w') from (by
        have := rfind_any (ls.take k) x.id a c' W (by simp; omega) ((hLw.below hWW).take k)
        rwa [List.length_take, Nat.min_eq_left (by omega)] at this))
      obtain ⟨b, off, ha, k0, k1, k2, k3, k4, k5, k6⟩ := hLw.addr hx
      subst ha
      have hm := HS.out x (List.mem_of_getElem? hx)
      have H := Lib.hid (fun W => rlotCheck_any x W hm.1 hm.2.1 hm.2.2.1 hm.2.2.2.1 hm.2.2.2.2)
      have HX := Lib.hid (fun h => scan_bad hx hp.out h)
      have HY := Lib.hid (fun h1 h2 => scan_dup hx hp.out h1 h2)
      have HZ := Lib.hid (fun h1 h2 => scan_next hx hp.out h1 h2)
      have hcell := Lib.hid (fun w' (hb : Below wr.heap.size wr w') => ((HW.out.below hB.out).below hb).addr hx)
      clear hm hx hLw
      go_wp2_with fail
      refine (H.out _).mono ?_
      rintro e w1 ⟨rfl, hb⟩
      by_cases g : x.err = 0
      · obtain ⟨b', off', ha', q0, _⟩ := hcell.out _ hb
        injection ha' with ha'
        injection ha' with e1 e2
        subst e1 e2
        have HY := Lib.hid (HY.out g)
        have HZ := Lib.hid (HZ.out g)
        clear HX hcell k0 k1 k2 k3 k4 k5 k6
        have hkc : k ≤ c := by omega
        have hkc' : (k : Int) ≤ c := by omega
        rw [g]
        go_wp2_with fail
        go_region_held3 (fun W => W.cell? ⟨b, off + k * 7, none⟩ = some (str x.id)) (first | exact q0 | go_keep)
          (first | (go_at_call 35; refine (HF.out _ (below_drewN hb _) _).mono ?_; rintro e w2 ⟨⟨n, rfl⟩, rfl⟩))
        cases hd : (ls.take k).any (fun y => y.id == x.id)
        · have HZ := Lib.hid (HZ.out hd)
          clear hd HY
          go_wp2
          go_round
          case rel => exact ⟨below_drewN (below_up hB.out hb) _, k + 1, by omega, by go_num, HZ⟩
          case measure => simp [intOf]; omega
        · have HY := Lib.hid (HY.out hd)
          clear hd HZ
          go_wp2
          go_ret
          exact ⟨ret_int (by rw [HY.out]), below_drewN (below_up hB.out hb) _⟩
      · have g' : (x.err != 0) = true := by simpa using g
        have G := Lib.hid g
        go_wp2
        go_ret
        exact ⟨ret_int (by rw [HX.out G.out]), below_up hB.out hb⟩
    · obtain rfl : k = ls.length := by omega
      go_wp2
      go_ret
      exact ⟨ret_int (by rw [hp.out]; simp [scanErr]), hB.out⟩
end Go.Proofs.YthlpfefckhdpiaaGreatDoor
