/- Walk of lot.Check. -/
import Derived.Test.YthlpfefckhdpiaaGreatDoorLotP
namespace Go.Proofs.YthlpfefckhdpiaaGreatDoor
open Go.RowKit Num
attribute [local go_sem] str_append str_extract str_size

set_option maxHeartbeats 2000000 in
set_option maxRecDepth 100000 in
theorem lotCheck_any (x : LotP) (w : World) (hE : Env w) (h1 : x.id.length ≤ 1000) (h2 : x.ins.length ≤ 1000) (h3 : x.q.length ≤ 1000) (h4 : x.c.length ≤ 1000) (h5 : x.u.length ≤ 1000) :
    Calls Tryz.prog 76 #[x.v] w fun e w' => e = .returned (.int .i64 x.err) ∧ Below w.heap.size w w' := by
  obtain ⟨id, ins, acq, opn, q, c, u⟩ := x
  simp only [LotP.v] at *
  have hr := Lib.hid (LotP.err_mk id ins acq opn q c u)
  have H1 := Lib.hid (fun W hW => isId_any id W hW (by omega))
  have H2 := Lib.hid (fun W => Name_any ins W (by omega))
  have H3 := Lib.hid (fun W => valid_any acq W)
  have H4 := Lib.hid (fun W => valid_any opn W)
  have H5 := Lib.hid (fun W => Check_bool q W (by omega))
  have H6 := Lib.hid (fun W => Check_bool c W (by omega))
  have H7 := Lib.hid (fun W => Check_bool u W (by omega))
  have H8 := Lib.hid (fun W => Cmp0 q W (by omega))
  have H9 := Lib.hid (fun W => Cmp0 c W (by omega))
  have HE := Lib.hid hE
  clear hE
  generalize LotP.err _ = r at *
  generalize isId id = b1 at *
  generalize isName ins = b2 at *
  generalize vday acq = b3 at *
  generalize vday opn = b4 at *
  generalize isInt q = b5 at *
  generalize isInt c = b6 at *
  generalize isInt u = b7 at *
  have KB := Lib.hid (Box.new0 w #[.string ⟨id.toArray⟩, .string ⟨ins.toArray⟩, .int .i64 acq, .int .i64 opn, .string ⟨q.toArray⟩, .string ⟨c.toArray⟩, .string ⟨u.toArray⟩] 35)
  have HB := Lib.hid (below_alloc w (.cells #[.string ⟨id.toArray⟩, .string ⟨ins.toArray⟩, .int .i64 acq, .int .i64 opn, .string ⟨q.toArray⟩, .string ⟨c.toArray⟩, .string ⟨u.toArray⟩] 35))
  go_enter Tryz.func76, Tryz.ntmps76
  go_wp2_with fail
  refine (H1.out _ (HE.out.below HB.out)).mono ?_
  rintro e w1 ⟨rfl, hb⟩
  have KB := Lib.hid (KB.out.below hb)
  have HB := Lib.hid (below_up HB.out hb)
  clear hb H1
  have k1 := KB.out.cell 1
  cases b1
  · go_wp2
    go_ret
    exact ⟨ret_int (by rw [hr.out]; simp), HB.out⟩
  go_wp2_with fail
  refine (H2.out _).mono ?_
  rintro e w1 ⟨rfl, hb⟩
  have KB := Lib.hid (KB.out.below hb)
  have HB := Lib.hid (below_up HB.out hb)
  clear hb H2 k1
  have k2 := KB.out.cell 2
  cases b2
  · go_wp2
    go_ret
    exact ⟨ret_int (by rw [hr.out]; simp), HB.out⟩
  go_wp2_with fail
  refine (H3.out _).mono ?_
  rintro e w2 ⟨rfl, rfl⟩
  have k3 := KB.out.cell 3
  cases b3
  · go_wp2
    go_ret
    exact ⟨ret_int (by rw [hr.out]; simp), HB.out⟩
  go_wp2_with fail
  refine (H4.out _).mono ?_
  rintro e w2 ⟨rfl, rfl⟩
  cases b4
  · go_wp2
    go_ret
    exact ⟨ret_int (by rw [hr.out]; simp), HB.out⟩
  by_cases g1 : opn < acq
  · go_wp2_with fail
    go_ret
    exact ⟨ret_int (by rw [hr.out]; simp [g1]), HB.out⟩
  have k4 := KB.out.cell 4
  have k5 := KB.out.cell 5
  have k6 := KB.out.cell 6
  go_wp2_with fail
  refine wp_loop_rounds 4 ?_
  rw [rounds_succ]
  have KS := Lib.hid (Box.new0 w1 #[.string ⟨q.toArray⟩, .string ⟨c.toArray⟩, .string ⟨u.toArray⟩] 33)
  have KB := Lib.hid (KB.out.below (below_alloc w1 (.cells #[.string ⟨q.toArray⟩, .string ⟨c.toArray⟩, .string ⟨u.toArray⟩] 33)))
  have HB := Lib.hid (below_up HB.out (below_alloc w1 (.cells #[.string ⟨q.toArray⟩, .string ⟨c.toArray⟩, .string ⟨u.toArray⟩] 33)))
  have k0 := KS.out.cell 0
  clear k2 k3 k4 k5 k6
  go_wp2_with fail
  refine (H5.out _).mono ?_
  rintro e w2 ⟨rfl, hb⟩
  have KB := Lib.hid (KB.out.below hb)
  have KS := Lib.hid (KS.out.below hb)
  have HB := Lib.hid (below_up HB.out hb)
  have k1 := KS.out.cell 1
  clear hb k0
  cases b5
  · go_wp2
    go_ret
    exact ⟨ret_int (by rw [hr.out]; simp [g1]), HB.out⟩
  go_wp2_with fail
  rw [rounds_succ]
  go_wp2_with fail
  refine (H6.out _).mono ?_
  rintro e w3 ⟨rfl, hb⟩
  have KB := Lib.hid (KB.out.below hb)
  have KS := Lib.hid (KS.out.below hb)
  have HB := Lib.hid (below_up HB.out hb)
  have k2 := KS.out.cell 2
  clear hb k1
  cases b6
  · go_wp2
    go_ret
    exact ⟨ret_int (by rw [hr.out]; simp [g1]), HB.out⟩
  go_wp2_with fail
  rw [rounds_succ]
  go_wp2_with fail
  refine (H7.out _).mono ?_
  rintro e w4 ⟨rfl, hb⟩
  have KB := Lib.hid (KB.out.below hb)
  have HB := Lib.hid (below_up HB.out hb)
  have k4 := KB.out.cell 4
  clear hb k2
  cases b7
  · go_wp2
    go_ret
    exact ⟨ret_int (by rw [hr.out]; simp [g1]), HB.out⟩
  go_wp2_with fail
  rw [rounds_succ]
  go_wp2_with fail
  refine (H8.out _).mono ?_
  rintro e w5 ⟨rfl, hb⟩
  have KB := Lib.hid (KB.out.below hb)
  have HB := Lib.hid (below_up HB.out hb)
  have k5 := KB.out.cell 5
  have hc1 := Lib.hid (cmpI_le (val q) 0)
  clear hb k4
  by_cases g2 : val q ≤ 0
  · have t1 := hc1.out.2 g2
    go_wp2
    go_ret
    exact ⟨ret_int (by rw [hr.out]; simp [g1, g2]), HB.out⟩
  have t1 := mt hc1.out.1 g2
  go_wp2_with fail
  refine (H9.out _).mono ?_
  rintro e w6 ⟨rfl, hb⟩
  have KB := Lib.hid (KB.out.below hb)
  have HB := Lib.hid (below_up HB.out hb)
  have k4 := KB.out.cell 4
  have k6 := KB.out.cell 6
  have hc2 := Lib.hid (cmpI_lt (val c) 0)
  clear hb k5
  by_cases g3 : val c < 0
  · have t2 := hc2.out.2 g3
    go_wp2
    go_ret
    exact ⟨ret_int (by rw [hr.out]; simp [g1, g3]), HB.out⟩
  have t2 := mt hc2.out.1 g3
  have G := Lib.hid (And.intro g1 (And.intro g2 g3))
  have HZ := HB
  by_cases g4 : u = []
  · subst g4
    go_wp2
    go_ret
    exact ⟨ret_int (by rw [hr.out]; have := G.out; simp; rw [if_neg (by omega), if_neg (by omega)]), HZ.out⟩
  by_cases g5 : u = q
  · subst g5
    go_wp2
    go_ret
    exact ⟨ret_int (by rw [hr.out]; have := G.out; simp; rw [if_neg (by omega), if_neg (by omega)]), HZ.out⟩
  · have G5 := Lib.hid (And.intro g4 g5)
    go_wp2
    · go_ret
      exact ⟨ret_int (by rw [hr.out]; have h7 := G.out; have h8 := G5.out; simp; rw [if_neg (by omega), if_pos (.inr (.inr h8))]), HZ.out⟩
    · exfalso
      rename_i hh
      have := G5.out
      simp [this] at hh
end Go.Proofs.YthlpfefckhdpiaaGreatDoor
