/- lot.CheckAll: what it returns of lots. -/
import Derived.Test.YthlpfefckhdpiaaGreatDoorLot
import Derived.Test.YthlpfefckhdpiaaGreatDoorLots
import Derived.Test.YthlpfefckhdpiaaGreatDoorSeen
namespace Go.Proofs.YthlpfefckhdpiaaGreatDoor
open Go.RowKit Num
attribute [local go_sem] str_append str_extract str_size

theorem any_ids (ls : List LotP) (k : Nat) (id : List UInt8) : ((ls.take k).map LotP.id).contains id = (ls.take k).any (fun y => y.id == id) := by
  induction ls.take k with
  | nil => rfl
  | cons x r ih =>
    simp only [List.map_cons, List.contains_cons, List.any_cons, ih]
    rw [Bool.beq_comm]
set_option maxHeartbeats 4000000 in
set_option maxRecDepth 100000 in
theorem checkAll_any (ls : List LotP) (a : Option Addr) (c : Nat) (w : World) (hE : Env w) (hn : ls.length ≤ 12) (hw : Lots w a ls) (hs : ∀ x, x ∈ ls → x.small) :
    Calls Tryz.prog 38 #[.slice a ls.length c] w fun e w' => e = .returned (.int .i64 (scanErr [] ls)) ∧ Below w.heap.size w w' := by
  have HS := Lib.hid hs
  have HW := Lib.hid hw
  have HE := Lib.hid hE
  clear hs hw hE
  have HG : ∃ r, r = scanErr [] ls := ⟨_, rfl⟩
  obtain ⟨r, hr⟩ := HG
  rw [← hr]
  have HG := Lib.hid hr
  clear hr
  have hmm := @run_makeMap Tryz.prog
  go_enter Tryz.func38, Tryz.ntmps38
  go_wp2
  go_loopw [13] (fun i W => Hid (Below w.heap.size w W) ∧ ∃ k : Nat, k ≤ ls.length ∧ i = .int .i64 (k : Int) ∧ Hid (Seen W w.heap.size k ((ls.take k).map LotP.id)) ∧ Hid (r = scanErr (ls.take k) (ls.drop k))) (fun i _ => ls.length - (intOf i).toNat)
  case atStart => exact ⟨below_alloc w _, 0, Nat.zero_le _, rfl, seen_made w, HG⟩
  case round =>
    obtain ⟨hB, k, hk, rfl, hS, hp⟩ := hrel
    by_cases hlt : k < ls.length
    · obtain ⟨x, hx⟩ : ∃ x, ls[k]? = some x := ⟨ls[k], List.getElem?_eq_getElem hlt⟩
      obtain ⟨b, off, ha, k0, k1, k2, k3, k4, k5, k6⟩ := (HW.out.below hB.out).addr hx
      subst ha
      have hm := HS.out x (List.mem_of_getElem? hx)
      have H := Lib.hid (fun W hW => lotCheck_any x W hW hm.1 hm.2.1 hm.2.2.1 hm.2.2.2.1 hm.2.2.2.2)
      have HX := Lib.hid (fun h => scan_bad hx hp.out h)
      have HY := Lib.hid (fun h1 h2 => scan_dup hx hp.out h1 h2)
      have HZ := Lib.hid (fun h1 h2 => scan_next hx hp.out h1 h2)
      have hxl : x.id.length ≤ 1000 := hm.1
      have hT := Lib.hid (take_at hx)
      clear hm hx
      go_wp2_with fail
      have KB := Lib.hid (Box.new0 wr #[.string ⟨x.id.toArray⟩, .string ⟨x.ins.toArray⟩, .int .i64 x.acq, .int .i64 x.opn, .string ⟨x.q.toArray⟩, .string ⟨x.c.toArray⟩, .string ⟨x.u.toArray⟩] 35)
      have hB := Lib.hid (below_up hB.out (below_alloc wr (.cells #[.string ⟨x.id.toArray⟩, .string ⟨x.ins.toArray⟩, .int .i64 x.acq, .int .i64 x.opn, .string ⟨x.q.toArray⟩, .string ⟨x.c.toArray⟩, .string ⟨x.u.toArray⟩] 35)))
      have hS := Lib.hid (hS.out.below (below_alloc wr (.cells #[.string ⟨x.id.toArray⟩, .string ⟨x.ins.toArray⟩, .int .i64 x.acq, .int .i64 x.opn, .string ⟨x.q.toArray⟩, .string ⟨x.c.toArray⟩, .string ⟨x.u.toArray⟩] 35)))
      refine (H.out _ (HE.out.below hB.out)).mono ?_
      rintro e w1 ⟨rfl, hb⟩
      have KB := Lib.hid (KB.out.below hb)
      have hB := Lib.hid (below_up hB.out hb)
      have hS := hS.out.below hb
      have k0 := KB.out.cell 0
      clear k1 k2 k3 k4 k5 k6 H hb
      by_cases g : x.err = 0
      · have HY := Lib.hid (HY.out g)
        have HZ := Lib.hid (HZ.out g)
        rw [g]
        clear HX
        cases hd : (ls.take k).any (fun y => y.id == x.id)
        · have HZ := Lib.hid (HZ.out hd)
          have hd' : ((ls.take k).map LotP.id).contains x.id = false := by rw [any_ids]; exact hd
          clear hd HY
          have hD := Lib.hid hd'
          have hT' : Hid ((ls.take k).map LotP.id ++ [x.id] = (ls.take (k + 1)).map LotP.id) := by show _ = _; rw [← hT.out]; simp
          generalize (ls.take k).map LotP.id = ids at *
          go_wp2_with (first | (at_lookup; refine wpList_lookup_seen _ rfl _ _ rfl w.heap.size k ids rfl hS x.id (by unfold maxLen; omega) rfl ?_; rw [hD.out]) | (at_mapUpdate; refine wpList_store_seen _ rfl _ _ _ rfl w.heap.size k ids rfl hS (by unfold maxLen; omega) x.id (by unfold maxLen; omega) rfl rfl ?_; intro w2 hS2 hg2) | go_in)
          go_round
          case rel => exact ⟨hB.out.grown hg2 hB.out.size (fun j hj => by cases hj; exact Nat.le_refl _), k + 1, by omega, by go_num, by rw [← hT'.out]; exact hS2, HZ⟩
          case measure => simp [intOf]; omega
        · have HY := Lib.hid (HY.out hd)
          have hd' : ((ls.take k).map LotP.id).contains x.id = true := by rw [any_ids]; exact hd
          clear hd HZ
          have hD := Lib.hid hd'
          generalize (ls.take k).map LotP.id = ids at *
          go_wp2_with (first | (at_lookup; refine wpList_lookup_seen _ rfl _ _ rfl w.heap.size k ids rfl hS x.id (by unfold maxLen; omega) rfl ?_; rw [hD.out]) | go_in)
          go_ret
          exact ⟨ret_int (by rw [HY.out]), hB.out⟩
      · have g' : (x.err != 0) = true := by simpa using g
        have G := Lib.hid g
        go_wp2
        go_ret
        exact ⟨ret_int (by rw [HX.out G.out]), hB.out⟩
    · obtain rfl : k = ls.length := by omega
      go_wp2
      go_ret
      exact ⟨ret_int (by rw [hp.out]; simp [scanErr]), hB.out⟩
end Go.Proofs.YthlpfefckhdpiaaGreatDoor
