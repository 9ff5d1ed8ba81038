/- Lots: the plain form of a lot, and what Check says of it. -/
import Derived.Test.YthlpfefckhdpiaaGreatDoorIds2
import Derived.Test.YthlpfefckhdpiaaGreatDoorSub
namespace Go.Proofs.YthlpfefckhdpiaaGreatDoor
open Go.RowKit Num

structure LotP where
  id : List UInt8
  ins : List UInt8
  acq : Int
  opn : Int
  q : List UInt8
  c : List UInt8
  u : List UInt8
abbrev str (l : List UInt8) : Value := .string ⟨l.toArray⟩
def LotP.v (x : LotP) : Value := .agg #[.string ⟨x.id.toArray⟩, .string ⟨x.ins.toArray⟩, .int .i64 x.acq, .int .i64 x.opn, .string ⟨x.q.toArray⟩, .string ⟨x.c.toArray⟩, .string ⟨x.u.toArray⟩]
def vday (d : Int) : Bool := decide (-25567 ≤ d) && decide (d ≤ 84005)
def isInt (l : List UInt8) : Bool := decide (canon (val l) = l)
def LotP.err (x : LotP) : Int :=
  if !(isId x.id && isName x.ins) then 23
  else if !(vday x.acq && vday x.opn) then 13
  else if x.opn < x.acq then 8
  else if !(isInt x.q && isInt x.c && isInt x.u) then 1
  else if val x.q ≤ 0 ∨ val x.c < 0 ∨ (x.u ≠ [] ∧ x.u ≠ x.q) then 2
  else 0
theorem LotP.err_mk (id ins : List UInt8) (acq opn : Int) (q c u : List UInt8) : LotP.err ⟨id, ins, acq, opn, q, c, u⟩ = (if !(isId id && isName ins) then 23
  else if !(vday acq && vday opn) then 13
  else if opn < acq then 8
  else if !(isInt q && isInt c && isInt u) then 1
  else if val q ≤ 0 ∨ val c < 0 ∨ (u ≠ [] ∧ u ≠ q) then 2
  else 0) := rfl
theorem cmpI_le (a b : Int) : cmpI a b ≤ 0 ↔ a ≤ b := by
  unfold cmpI; split
  · omega
  · split <;> omega
theorem cmpI_lt (a b : Int) : cmpI a b < 0 ↔ a < b := by
  unfold cmpI; split
  · omega
  · split <;> omega
theorem Check_bool (l : List UInt8) (w : World) (hl : l.length ≤ 9000000000000000000) :
    Calls Tryz.prog 104 #[.string ⟨l.toArray⟩] w fun e w' => e = .returned (.int .i64 (if isInt l = true then 0 else 1)) ∧ Below w.heap.size w w' := by
  have h := Check_any l w hl
  unfold isInt
  simpa using h
theorem val_nil : val [] = 0 := by decide
theorem Cmp0 (l : List UInt8) (w : World) (hl : l.length ≤ 10000000000) :
    Calls Tryz.prog 106 #[.string ⟨l.toArray⟩, .string ⟨#[]⟩] w fun e w' => e = .returned (.int .i64 (cmpI (val l) 0)) ∧ Below w.heap.size w w' := by
  have h := Compare_any l [] w hl (by simp)
  rw [val_nil] at h
  exact h
set_option maxHeartbeats 1000000 in
theorem valid_any (d : Int) (w : World) :
    Calls Tryz.prog 117 #[.int .i64 d] w fun e w' => e = .returned (.bool (vday d)) ∧ w = w' := by
  have hd := Lib.hid (show vday d = (decide (-25567 ≤ d) && decide (d ≤ 84005)) from rfl)
  by_cases g1 : -25567 ≤ d <;> by_cases g2 : d ≤ 84005
  all_goals
    go_enter Tryz.func117, Tryz.ntmps117
    go_wp2
    go_ret
    exact ⟨ret_bool (by rw [hd.out]; simp [g1, g2]), rfl⟩
theorem rvalid_any (d : Int) (w : World) :
    Calls Tryz.prog 71 #[.int .i64 d] w fun e w' => e = .returned (.bool (vday d)) ∧ w = w' := by
  have hd := Lib.hid (show vday d = (decide (-25567 ≤ d) && decide (d ≤ 84005)) from rfl)
  by_cases g1 : -25567 ≤ d <;> by_cases g2 : d ≤ 84005
  all_goals
    go_enter Tryz.func71, Tryz.ntmps71
    go_wp2
    go_ret
    exact ⟨ret_bool (by rw [hd.out]; simp [g1, g2]), rfl⟩

/-- a block of cells that holds a struct -/
def Box (w : World) (b : Nat) (cs : Array Value) (T : TypeId) : Prop := b < w.heap.size ∧ w.heap[b]? = some (.cells cs T (0, 0))
theorem Box.below {w w' : World} {b : Nat} {cs : Array Value} {T : TypeId} (h : Box w b cs T) (hb : Below w.heap.size w w') : Box w' b cs T :=
  ⟨Nat.lt_of_lt_of_le h.1 hb.size, (hb.block _ h.1).trans h.2⟩
theorem Box.cell {w : World} {b : Nat} {cs : Array Value} {T : TypeId} (h : Box w b cs T) (j : Nat) : w.cell? ⟨b, j, none⟩ = cs[j]? := cell_at h.2 j
theorem Box.new (w : World) (cs : Array Value) (T : TypeId) (n : Nat) : Box ((w.alloc (.cells cs T)).drewN n) w.heap.size cs T := ⟨by show w.heap.size < (w.alloc _).heap.size; simp, heap_alloc_new w _⟩
theorem Box.new0 (w : World) (cs : Array Value) (T : TypeId) : Box (w.alloc (.cells cs T)) w.heap.size cs T := Box.new w cs T 0
theorem below_alloc (w : World) (o : Obj) : Below w.heap.size w (w.alloc o) := (Below.refl _ _).alloc (Nat.le_refl _) _
end Go.Proofs.YthlpfefckhdpiaaGreatDoor
