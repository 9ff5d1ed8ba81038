/- trancheref19: Check, GreatOne: what they return of a lot. -/
import Derived.Test.YthlpfefckhdpiaaGreatDoorRef01
namespace Go.Proofs.YthlpfefckhdpiaaGreatDoor
open Go.RowKit Num
attribute [local go_sem] str_append str_extract str_size

def LotP.great (x : LotP) : Bool := decide (13 < x.q.length) || decide (13 < x.c.length) || decide (13 < x.u.length) || decide (40 < x.id.length) || decide (40 < x.ins.length)
theorem LotP.great_mk (id ins : List UInt8) (acq opn : Int) (q c u : List UInt8) : LotP.great ⟨id, ins, acq, opn, q, c, u⟩ = (decide (13 < q.length) || decide (13 < c.length) || decide (13 < u.length) || decide (40 < id.length) || decide (40 < ins.length)) := rfl

set_option maxHeartbeats 2000000 in
set_option maxRecDepth 100000 in
theorem rlotCheck_any (x : LotP) (w : World) (h1 : x.id.length ≤ 1000) (h2 : x.ins.length ≤ 1000) (h3 : x.q.length ≤ 1000) (h4 : x.c.length ≤ 1000) (h5 : x.u.length ≤ 1000) :
    Calls Tryz.prog 34 #[x.v] w fun e w' => e = .returned (.int .i64 x.err) ∧ Below w.heap.size w w' := by
  obtain ⟨id, ins, acq, opn, q, c, u⟩ := x
  simp only [LotP.v] at *
  have hr := Lib.hid (LotP.err_mk id ins acq opn q c u)
  have H1 := Lib.hid (fun W => RId_any id W (by omega))
  have H2 := Lib.hid (fun W => RName_any ins W (by omega))
  have H3 := Lib.hid (fun W => rvalid_any acq W)
  have H4 := Lib.hid (fun W => rvalid_any opn W)
  have H5 := Lib.hid (fun W => RCheck_any q W (by omega))
  have H6 := Lib.hid (fun W => RCheck_any c W (by omega))
  have H7 := Lib.hid (fun W => RCheck_any u W (by omega))
  have H8 := Lib.hid (fun W => RSign_any q W (by omega))
  have H9 := Lib.hid (fun W => RSign_any c W (by omega))
  generalize LotP.err _ = r at *
  generalize isId id = b1 at *
  generalize isName ins = b2 at *
  generalize vday acq = b3 at *
  generalize vday opn = b4 at *
  generalize isInt q = b5 at *
  generalize isInt c = b6 at *
  generalize isInt u = b7 at *
  have KB := Lib.hid (Box.new0 w #[.string ⟨id.toArray⟩, .string ⟨ins.toArray⟩, .int .i64 acq, .int .i64 opn, .string ⟨q.toArray⟩, .string ⟨c.toArray⟩, .string ⟨u.toArray⟩] 35)
  have HB := Lib.hid (below_alloc w (.cells #[.string ⟨id.toArray⟩, .string ⟨ins.toArray⟩, .int .i64 acq, .int .i64 opn, .string ⟨q.toArray⟩, .string ⟨c.toArray⟩, .string ⟨u.toArray⟩] 35))
  go_enter Tryz.func34, Tryz.ntmps34
  go_wp2_with fail
  generalize w.alloc _ = w1 at *
  have k1 := KB.out.cell 1
  have k2 := KB.out.cell 2
  have k3 := KB.out.cell 3
  have k4 := KB.out.cell 4
  have k5 := KB.out.cell 5
  have k6 := KB.out.cell 6
  refine (H1.out _).mono ?_
  rintro e w1 ⟨rfl, rfl⟩
  cases b1
  · go_wp2
    go_ret
    exact ⟨ret_int (by rw [hr.out]; simp), HB.out⟩
  go_wp2_with fail
  refine (H2.out _).mono ?_
  rintro e w1 ⟨rfl, rfl⟩
  cases b2
  · go_wp2
    go_ret
    exact ⟨ret_int (by rw [hr.out]; simp), HB.out⟩
  go_wp2_with fail
  refine (H3.out _).mono ?_
  rintro e w2 ⟨rfl, rfl⟩
  cases b3
  · go_wp2
    go_ret
    exact ⟨ret_int (by rw [hr.out]; simp), HB.out⟩
  go_wp2_with fail
  refine (H4.out _).mono ?_
  rintro e w2 ⟨rfl, rfl⟩
  cases b4
  · go_wp2
    go_ret
    exact ⟨ret_int (by rw [hr.out]; simp), HB.out⟩
  by_cases g1 : opn < acq
  · go_wp2_with fail
    go_ret
    exact ⟨ret_int (by rw [hr.out]; simp [g1]), HB.out⟩
  go_wp2_with fail
  refine (H5.out _).mono ?_
  rintro e w2 ⟨rfl, rfl⟩
  cases b5
  · go_wp2
    go_ret
    exact ⟨ret_int (by rw [hr.out]; simp [g1]), HB.out⟩
  go_wp2_with fail
  refine (H6.out _).mono ?_
  rintro e w2 ⟨rfl, rfl⟩
  cases b6
  · go_wp2
    go_ret
    exact ⟨ret_int (by rw [hr.out]; simp [g1]), HB.out⟩
  go_wp2_with fail
  refine (H7.out _).mono ?_
  rintro e w2 ⟨rfl, rfl⟩
  cases b7
  · go_wp2
    go_ret
    exact ⟨ret_int (by rw [hr.out]; simp [g1]), HB.out⟩
  go_wp2_with fail
  refine (H8.out _).mono ?_
  rintro e w2 ⟨rfl, rfl⟩
  have hc1 := Lib.hid (cmpI_le (val q) 0)
  by_cases g2 : val q ≤ 0
  · have t1 := hc1.out.2 g2
    go_wp2
    go_ret
    exact ⟨ret_int (by rw [hr.out]; simp [g1, g2]), HB.out⟩
  have t1 := mt hc1.out.1 g2
  go_wp2_with fail
  refine (H9.out _).mono ?_
  rintro e w2 ⟨rfl, rfl⟩
  have hc2 := Lib.hid (cmpI_lt (val c) 0)
  by_cases g3 : val c < 0
  · have t2 := hc2.out.2 g3
    go_wp2
    go_ret
    exact ⟨ret_int (by rw [hr.out]; simp [g1, g3]), HB.out⟩
  have t2 := mt hc2.out.1 g3
  have G := Lib.hid (And.intro g1 (And.intro g2 g3))
  by_cases g4 : u = []
  · subst g4
    go_wp2
    go_ret
    exact ⟨ret_int (by rw [hr.out]; have := G.out; simp; rw [if_neg (by omega), if_neg (by omega)]), HB.out⟩
  by_cases g5 : u = q
  · subst g5
    go_wp2
    go_ret
    exact ⟨ret_int (by rw [hr.out]; have := G.out; simp; rw [if_neg (by omega), if_neg (by omega)]), HB.out⟩
  · have G5 := Lib.hid (And.intro g4 g5)
    go_wp2
    · go_ret
      exact ⟨ret_int (by rw [hr.out]; have h7 := G.out; have h8 := G5.out; simp; rw [if_neg (by omega), if_pos (.inr (.inr h8))]), HB.out⟩
    · exfalso
      rename_i hh
      have := G5.out
      simp [this] at hh

set_option maxHeartbeats 2000000 in
set_option maxRecDepth 100000 in
theorem greatOne_any (x : LotP) (w : World) (h1 : x.id.length ≤ 9223372036854775807) (h2 : x.ins.length ≤ 9223372036854775807) (h3 : x.q.length ≤ 9223372036854775807) (h4 : x.c.length ≤ 9223372036854775807) (h5 : x.u.length ≤ 9223372036854775807) :
    Calls Tryz.prog 33 #[x.v] w fun e w' => e = .returned (.bool x.great) ∧ Below w.heap.size w w' := by
  have hlong : Hid (∀ l : List UInt8, l.length ≤ 9223372036854775807 → ∀ W, Calls Tryz.prog 61 #[.string ⟨l.toArray⟩] W fun e w' => e = .returned (.bool (decide (13 < l.length))) ∧ W = w') := by
    intro l hl W
    by_cases g : (13 : Int) < l.length
    all_goals
      go_enter Tryz.func61, Tryz.ntmps61
      go_wp2
      go_ret
      exact ⟨ret_bool (by simp; try omega), rfl⟩
  obtain ⟨id, ins, acq, opn, q, c, u⟩ := x
  simp only [LotP.v] at *
  have hr := Lib.hid (LotP.great_mk id ins acq opn q c u)
  have H1 := Lib.hid (hlong.out q h3)
  have H2 := Lib.hid (hlong.out c h4)
  have H3 := Lib.hid (hlong.out u h5)
  clear hlong
  generalize LotP.great _ = r at *
  generalize decide (13 < q.length) = b1 at *
  generalize decide (13 < c.length) = b2 at *
  generalize decide (13 < u.length) = b3 at *
  have KB := Lib.hid (Box.new0 w #[.string ⟨id.toArray⟩, .string ⟨ins.toArray⟩, .int .i64 acq, .int .i64 opn, .string ⟨q.toArray⟩, .string ⟨c.toArray⟩, .string ⟨u.toArray⟩] 35)
  have HB := Lib.hid (below_alloc w (.cells #[.string ⟨id.toArray⟩, .string ⟨ins.toArray⟩, .int .i64 acq, .int .i64 opn, .string ⟨q.toArray⟩, .string ⟨c.toArray⟩, .string ⟨u.toArray⟩] 35))
  go_enter Tryz.func33, Tryz.ntmps33
  go_wp2_with fail
  generalize w.alloc _ = w1 at *
  have k0 := KB.out.cell 0
  have k1 := KB.out.cell 1
  have k5 := KB.out.cell 5
  have k6 := KB.out.cell 6
  refine (H1.out _).mono ?_
  rintro e w1 ⟨rfl, rfl⟩
  cases b1
  case true =>
    go_wp2
    go_ret
    exact ⟨ret_bool (by rw [hr.out]; simp), HB.out⟩
  go_wp2_with fail
  refine (H2.out _).mono ?_
  rintro e w1 ⟨rfl, rfl⟩
  cases b2
  case true =>
    go_wp2
    go_ret
    exact ⟨ret_bool (by rw [hr.out]; simp), HB.out⟩
  go_wp2_with fail
  refine (H3.out _).mono ?_
  rintro e w1 ⟨rfl, rfl⟩
  cases b3
  case true =>
    go_wp2
    go_ret
    exact ⟨ret_bool (by rw [hr.out]; simp), HB.out⟩
  by_cases g1 : (40 : Int) < id.length
  · go_wp2
    go_ret
    exact ⟨ret_bool (by rw [hr.out]; simp; omega), HB.out⟩
  by_cases g2 : (40 : Int) < ins.length
  all_goals
    go_wp2
    go_ret
    exact ⟨ret_bool (by rw [hr.out]; first | (simp only [decide_eq_false (show ¬ 40 < id.length by omega), decide_eq_false (show ¬ 40 < ins.length by omega), decide_eq_false (show ¬ (40 : Int) < id.length by omega), decide_eq_false (show ¬ (40 : Int) < ins.length by omega)] <;> rfl) | (simp; omega)), HB.out⟩

/-- lots lie from the address a on -/
def Lots (w : World) (a : Option Addr) (ls : List LotP) : Prop :=
  ls = [] ∨ ∃ b off, a = some ⟨b, off, none⟩ ∧ b < w.heap.size ∧ ∀ k x, ls[k]? = some x →
    w.cell? ⟨b, off + k * 7, none⟩ = some (str x.id) ∧ w.cell? ⟨b, off + k * 7 + 1, none⟩ = some (str x.ins) ∧ w.cell? ⟨b, off + k * 7 + 2, none⟩ = some (.int .i64 x.acq) ∧ w.cell? ⟨b, off + k * 7 + 3, none⟩ = some (.int .i64 x.opn) ∧
    w.cell? ⟨b, off + k * 7 + 4, none⟩ = some (str x.q) ∧ w.cell? ⟨b, off + k * 7 + 5, none⟩ = some (str x.c) ∧ w.cell? ⟨b, off + k * 7 + 6, none⟩ = some (str x.u)
theorem Lots.below {w w' : World} {a : Option Addr} {ls : List LotP} (h : Lots w a ls) (hb : Below w.heap.size w w') : Lots w' a ls := by
  rcases h with h | ⟨b, off, ha, hlt, hc⟩
  · exact .inl h
  · have hcell : ∀ o, w'.cell? ⟨b, o, none⟩ = w.cell? ⟨b, o, none⟩ := fun o => hb.cell (p := ⟨b, o, none⟩) hlt
    refine .inr ⟨b, off, ha, Nat.lt_of_lt_of_le hlt hb.size, fun k x hx => ?_⟩
    simp only [hcell]
    exact hc k x hx
theorem Lots.addr {w : World} {a : Option Addr} {ls : List LotP} (h : Lots w a ls) {k : Nat} {x : LotP} (hx : ls[k]? = some x) :
    ∃ b off, a = some ⟨b, off, none⟩ ∧ 
    w.cell? ⟨b, off + k * 7, none⟩ = some (str x.id) ∧ w.cell? ⟨b, off + k * 7 + 1, none⟩ = some (str x.ins) ∧ w.cell? ⟨b, off + k * 7 + 2, none⟩ = some (.int .i64 x.acq) ∧ w.cell? ⟨b, off + k * 7 + 3, none⟩ = some (.int .i64 x.opn) ∧
    w.cell? ⟨b, off + k * 7 + 4, none⟩ = some (str x.q) ∧ w.cell? ⟨b, off + k * 7 + 5, none⟩ = some (str x.c) ∧ w.cell? ⟨b, off + k * 7 + 6, none⟩ = some (str x.u) := by
  rcases h with h | ⟨b, off, ha, _, hc⟩
  · rw [h] at hx; simp at hx
  · exact ⟨b, off, ha, hc k x hx⟩
end Go.Proofs.YthlpfefckhdpiaaGreatDoor
