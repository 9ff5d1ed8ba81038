/- Field -/
import Derived.Test.YtgopbldkhlmbnaaGreatDoorJCheck
import Derived.Test.YtgopbldkhlmbnaaGreatDoorJFactC
import Derived.Test.YtgopbldkhlmbnaaGreatDoorJAdd
namespace Go.Proofs.YtgopbldkhlmbnaaGreatDoor
open Go Go.RowKit Num
theorem nameField_any (l : List UInt8) (w : World) (hl : l.length ≤ 1000) :
    Calls Tryz.prog 95 #[.string ⟨l.toArray⟩] w fun e w' => e = .returned (.int .i64 (nameErr l)) ∧ Below w.heap.size w w' := by
  have HN := Lib.hid (fun W => Name_any l W (by omega))
  unfold nameErr
  generalize isName l = r at *
  cases r
  all_goals
    go_enter Tryz.func95, Tryz.ntmps95
    go_wp2_with fail
    refine (HN.out _).mono ?_
    rintro e w1 ⟨rfl, hb⟩
    go_wp2
    go_ret
    exact ⟨rfl, hb⟩
set_option maxHeartbeats 2000000 in
set_option maxRecDepth 100000 in
theorem field_0 (f : FactP) (pa oa : Option Addr) (pc oc : Nat) (k : KindP) (mv : Option Nat) (w : World) (hl : f.ins.length ≤ 1000) :
    Calls Tryz.prog 69 #[.agg (f.cells pa pc oa oc), .agg (kcells k.word k.cls k.has (.map mv) k.code), .int .i64 0] w fun e w' => e = .returned (.int .i64 (nameErr f.ins)) ∧ Below w.heap.size w w' := by
  have KF := (Box.new0 w (f.cells pa pc oa oc) 36).below (below_alloc _ (.cells (kcells k.word k.cls k.has (.map mv) k.code) 100))
  have KK := Box.new0 (w.alloc (.cells (f.cells pa pc oa oc) 36)) (kcells k.word k.cls k.has (.map mv) k.code) 100
  rw [World.size_alloc] at KK
  have HB := Lib.hid (((Below.refl w.heap.size w).alloc (Nat.le_refl _) (.cells (f.cells pa pc oa oc) 36)).alloc (by simp) (.cells (kcells k.word k.cls k.has (.map mv) k.code) 100))
  have c5 := (KF.cell 5).trans (show _ = some (.string ⟨f.ins.toArray⟩) from rfl)
  have HN := Lib.hid (fun W => nameField_any f.ins W hl)
  have KF := Lib.hid KF
  have KK := Lib.hid KK
  generalize f.cells pa pc oa oc = fc at *
  generalize kcells k.word k.cls k.has (.map mv) k.code = kc at *
  generalize f.ins = ins at *
  generalize nameErr ins = r at *
  go_enter Tryz.func69, Tryz.ntmps69
  go_wp2_with fail
  refine (HN.out _).mono ?_
  rintro e w1 ⟨rfl, hb⟩
  go_wp2
  go_ret
  exact ⟨rfl, below_up HB.out hb⟩
set_option maxHeartbeats 2000000 in
set_option maxRecDepth 100000 in
theorem field_3 (f : FactP) (pa oa : Option Addr) (pc oc : Nat) (k : KindP) (mv : Option Nat) (w : World) (hl : f.target.length ≤ 1000) :
    Calls Tryz.prog 69 #[.agg (f.cells pa pc oa oc), .agg (kcells k.word k.cls k.has (.map mv) k.code), .int .i64 3] w fun e w' => e = .returned (.int .i64 (nameErr f.target)) ∧ Below w.heap.size w w' := by
  have KF := (Box.new0 w (f.cells pa pc oa oc) 36).below (below_alloc _ (.cells (kcells k.word k.cls k.has (.map mv) k.code) 100))
  have KK := Box.new0 (w.alloc (.cells (f.cells pa pc oa oc) 36)) (kcells k.word k.cls k.has (.map mv) k.code) 100
  rw [World.size_alloc] at KK
  have HB := Lib.hid (((Below.refl w.heap.size w).alloc (Nat.le_refl _) (.cells (f.cells pa pc oa oc) 36)).alloc (by simp) (.cells (kcells k.word k.cls k.has (.map mv) k.code) 100))
  have c8 := (KF.cell 8).trans (show _ = some (.string ⟨f.target.toArray⟩) from rfl)
  have HN := Lib.hid (fun W => nameField_any f.target W hl)
  have KF := Lib.hid KF
  have KK := Lib.hid KK
  generalize f.cells pa pc oa oc = fc at *
  generalize kcells k.word k.cls k.has (.map mv) k.code = kc at *
  generalize f.target = ins at *
  generalize nameErr ins = r at *
  go_enter Tryz.func69, Tryz.ntmps69
  go_wp2_with fail
  refine (HN.out _).mono ?_
  rintro e w1 ⟨rfl, hb⟩
  go_wp2
  go_ret
  exact ⟨rfl, below_up HB.out hb⟩
set_option maxHeartbeats 2000000 in
set_option maxRecDepth 100000 in
theorem field_2 (f : FactP) (pa oa : Option Addr) (pc oc : Nat) (k : KindP) (mv : Option Nat) (w : World) (hl : f.cur.length ≤ 1000) :
    Calls Tryz.prog 69 #[.agg (f.cells pa pc oa oc), .agg (kcells k.word k.cls k.has (.map mv) k.code), .int .i64 2] w fun e w' => e = .returned (.int .i64 (if isCode f.cur = true then 0 else 12)) ∧ Below w.heap.size w w' := by
  have KF := (Box.new0 w (f.cells pa pc oa oc) 36).below (below_alloc _ (.cells (kcells k.word k.cls k.has (.map mv) k.code) 100))
  have KK := Box.new0 (w.alloc (.cells (f.cells pa pc oa oc) 36)) (kcells k.word k.cls k.has (.map mv) k.code) 100
  rw [World.size_alloc] at KK
  have HB := Lib.hid (((Below.refl w.heap.size w).alloc (Nat.le_refl _) (.cells (f.cells pa pc oa oc) 36)).alloc (by simp) (.cells (kcells k.word k.cls k.has (.map mv) k.code) 100))
  have c7 := (KF.cell 7).trans (show _ = some (.string ⟨f.cur.toArray⟩) from rfl)
  have HN := Lib.hid (fun W => isCode_any f.cur W (by omega))
  have KF := Lib.hid KF
  have KK := Lib.hid KK
  generalize f.cells pa pc oa oc = fc at *
  generalize kcells k.word k.cls k.has (.map mv) k.code = kc at *
  generalize f.cur = cur at *
  generalize isCode cur = r at *
  cases r
  all_goals
    go_enter Tryz.func69, Tryz.ntmps69
    go_wp2_with fail
    refine (HN.out _).mono ?_
    rintro e w1 ⟨rfl, hb⟩
    go_wp2
    go_ret
    exact ⟨rfl, below_up HB.out hb⟩
set_option maxHeartbeats 2000000 in
set_option maxRecDepth 100000 in
theorem field_12 (f : FactP) (pa oa : Option Addr) (pc oc : Nat) (k : KindP) (mv : Option Nat) (w : World)  :
    Calls Tryz.prog 69 #[.agg (f.cells pa pc oa oc), .agg (kcells k.word k.cls k.has (.map mv) k.code), .int .i64 12] w fun e w' => e = .returned (.int .i64 (if f.choice < 0 then 2 else 0)) ∧ Below w.heap.size w w' := by
  have KF := (Box.new0 w (f.cells pa pc oa oc) 36).below (below_alloc _ (.cells (kcells k.word k.cls k.has (.map mv) k.code) 100))
  have KK := Box.new0 (w.alloc (.cells (f.cells pa pc oa oc) 36)) (kcells k.word k.cls k.has (.map mv) k.code) 100
  rw [World.size_alloc] at KK
  have HB := Lib.hid (((Below.refl w.heap.size w).alloc (Nat.le_refl _) (.cells (f.cells pa pc oa oc) 36)).alloc (by simp) (.cells (kcells k.word k.cls k.has (.map mv) k.code) 100))
  have c20 := (KF.cell 20).trans (show _ = some (.int .i64 f.choice) from rfl)
  have KF := Lib.hid KF
  have KK := Lib.hid KK
  generalize f.cells pa pc oa oc = fc at *
  generalize kcells k.word k.cls k.has (.map mv) k.code = kc at *
  generalize f.choice = x at *
  by_cases hx : x < 0
  · rw [if_pos hx]
    go_enter Tryz.func69, Tryz.ntmps69
    go_wp2
    go_ret
    exact ⟨rfl, HB.out⟩
  · rw [if_neg hx]
    go_enter Tryz.func69, Tryz.ntmps69
    go_wp2
    go_ret
    exact ⟨rfl, HB.out⟩
set_option maxHeartbeats 2000000 in
set_option maxRecDepth 100000 in
theorem field_10 (f : FactP) (pa oa : Option Addr) (pc oc : Nat) (k : KindP) (mv : Option Nat) (w : World) (hE : Env w) (hs : f.small) (hcap : f.picks.length ≤ pc) (hb : f.Behind w pa oa) :
    Calls Tryz.prog 69 #[.agg (f.cells pa pc oa oc), .agg (kcells k.word k.cls k.has (.map mv) k.code), .int .i64 10] w fun e w' => e = .returned (.int .i64 (pickErr f)) ∧ Below w.heap.size w w' := by
  have KF := (Box.new0 w (f.cells pa pc oa oc) 36).below (below_alloc _ (.cells (kcells k.word k.cls k.has (.map mv) k.code) 100))
  have KK := Box.new0 (w.alloc (.cells (f.cells pa pc oa oc) 36)) (kcells k.word k.cls k.has (.map mv) k.code) 100
  rw [World.size_alloc] at KK
  have HB := Lib.hid (((Below.refl w.heap.size w).alloc (Nat.le_refl _) (.cells (f.cells pa pc oa oc) 36)).alloc (by simp) (.cells (kcells k.word k.cls k.has (.map mv) k.code) 100))
  have HSZ : Hid ((Tryz.prog.info? 36).map (·.size) = some (f.cells pa pc oa oc).size) := factSize f pa oa pc oc
  have HC := Lib.hid (fun W hE hb => checkPicks_any f pa oa pc oc W hE hs hcap hb)
  have HE := Lib.hid hE
  have HBH := Lib.hid hb
  clear hE hb
  have KF := Lib.hid KF
  have KK := Lib.hid KK
  generalize f.cells pa pc oa oc = fc at *
  generalize kcells k.word k.cls k.has (.map mv) k.code = kc at *
  generalize pickErr f = r at *
  go_enter Tryz.func69, Tryz.ntmps69
  go_wp2_with (refine wpList_load_row rfl 36 _ rfl w.heap.size rfl 36 fc (0, 0) _ KF.out.2 Tryz.underlying36 rfl HSZ.out ?_)
  refine (HC.out _ (HE.out.below HB.out) (HBH.out.below HB.out)).mono ?_
  rintro e w1 ⟨rfl, hb⟩
  go_wp2
  go_ret
  exact ⟨rfl, below_up HB.out hb⟩
set_option maxHeartbeats 2000000 in
set_option maxRecDepth 100000 in
theorem field_11 (f : FactP) (pa oa : Option Addr) (pc oc : Nat) (k : KindP) (mv : Option Nat) (w : World) (hE : Env w) (hs : f.small) (hb : f.Behind w pa oa) :
    Calls Tryz.prog 69 #[.agg (f.cells pa pc oa oc), .agg (kcells k.word k.cls k.has (.map mv) k.code), .int .i64 11] w fun e w' => e = .returned (.int .i64 (optErr f)) ∧ Below w.heap.size w w' := by
  have KF := (Box.new0 w (f.cells pa pc oa oc) 36).below (below_alloc _ (.cells (kcells k.word k.cls k.has (.map mv) k.code) 100))
  have KK := Box.new0 (w.alloc (.cells (f.cells pa pc oa oc) 36)) (kcells k.word k.cls k.has (.map mv) k.code) 100
  rw [World.size_alloc] at KK
  have HB := Lib.hid (((Below.refl w.heap.size w).alloc (Nat.le_refl _) (.cells (f.cells pa pc oa oc) 36)).alloc (by simp) (.cells (kcells k.word k.cls k.has (.map mv) k.code) 100))
  have HSZ : Hid ((Tryz.prog.info? 36).map (·.size) = some (f.cells pa pc oa oc).size) := factSize f pa oa pc oc
  have HC := Lib.hid (fun W hE hb => checkOptions_any f pa oa pc oc W hE hs hb)
  have HE := Lib.hid hE
  have HBH := Lib.hid hb
  clear hE hb
  have KF := Lib.hid KF
  have KK := Lib.hid KK
  generalize f.cells pa pc oa oc = fc at *
  generalize kcells k.word k.cls k.has (.map mv) k.code = kc at *
  generalize optErr f = r at *
  go_enter Tryz.func69, Tryz.ntmps69
  go_wp2_with (refine wpList_load_row rfl 36 _ rfl w.heap.size rfl 36 fc (0, 0) _ KF.out.2 Tryz.underlying36 rfl HSZ.out ?_)
  refine (HC.out _ (HE.out.below HB.out) (HBH.out.below HB.out)).mono ?_
  rintro e w1 ⟨rfl, hb⟩
  go_wp2
  go_ret
  exact ⟨rfl, below_up HB.out hb⟩
set_option maxHeartbeats 2000000 in
set_option maxRecDepth 100000 in
theorem field_1t (f : FactP) (pa oa : Option Addr) (pc oc : Nat) (k : KindP) (mv : Option Nat) (w : World) (hl : f.other.length ≤ 1000) (hc : k.code = true) :
    Calls Tryz.prog 69 #[.agg (f.cells pa pc oa oc), .agg (kcells k.word k.cls k.has (.map mv) k.code), .int .i64 1] w fun e w' => e = .returned (.int .i64 (otherErr f true)) ∧ Below w.heap.size w w' := by
  have KF := (Box.new0 w (f.cells pa pc oa oc) 36).below (below_alloc _ (.cells (kcells k.word k.cls k.has (.map mv) k.code) 100))
  have KK := Box.new0 (w.alloc (.cells (f.cells pa pc oa oc) 36)) (kcells k.word k.cls k.has (.map mv) k.code) 100
  rw [World.size_alloc] at KK
  have HB := Lib.hid (((Below.refl w.heap.size w).alloc (Nat.le_refl _) (.cells (f.cells pa pc oa oc) 36)).alloc (by simp) (.cells (kcells k.word k.cls k.has (.map mv) k.code) 100))
  have c5 := (KF.cell 5).trans (show _ = some (.string ⟨f.ins.toArray⟩) from rfl)
  have c6 := (KF.cell 6).trans (show _ = some (.string ⟨f.other.toArray⟩) from rfl)
  have c7 := (KF.cell 7).trans (show _ = some (.string ⟨f.cur.toArray⟩) from rfl)
  have k16 := (KK.cell 16).trans (show _ = some (.bool true) from by rw [hc]; unfold kcells; rw [List.getElem?_toArray, List.getElem?_append_right (by simp [has_len])]; simp [has_len])
  have HN := Lib.hid (fun W => isCode_any f.other W (by omega))
  unfold otherErr
  have KF := Lib.hid KF
  have KK := Lib.hid KK
  generalize f.cells pa pc oa oc = fc at *
  generalize kcells k.word k.cls k.has (.map mv) k.code = kc at *
  generalize f.ins = ins at *
  generalize f.other = other at *
  generalize f.cur = cur at *
  generalize isCode other = r at *
  cases heq : (other == cur) <;> cases r
  all_goals
    go_enter Tryz.func69, Tryz.ntmps69
    go_wp2_with fail
    refine (HN.out _).mono ?_
    rintro e w1 ⟨rfl, hb⟩
    have d5 := (hb.cell (p := ⟨w.heap.size, 5, none⟩) KF.out.1).trans c5
    have d6 := (hb.cell (p := ⟨w.heap.size, 6, none⟩) KF.out.1).trans c6
    have d7 := (hb.cell (p := ⟨w.heap.size, 7, none⟩) KF.out.1).trans c7
    go_wp2
    go_ret
    exact ⟨rfl, below_up HB.out hb⟩
set_option maxHeartbeats 2000000 in
set_option maxRecDepth 100000 in
theorem field_1f (f : FactP) (pa oa : Option Addr) (pc oc : Nat) (k : KindP) (mv : Option Nat) (w : World) (hl : f.other.length ≤ 1000) (hc : k.code = false) :
    Calls Tryz.prog 69 #[.agg (f.cells pa pc oa oc), .agg (kcells k.word k.cls k.has (.map mv) k.code), .int .i64 1] w fun e w' => e = .returned (.int .i64 (otherErr f false)) ∧ Below w.heap.size w w' := by
  have KF := (Box.new0 w (f.cells pa pc oa oc) 36).below (below_alloc _ (.cells (kcells k.word k.cls k.has (.map mv) k.code) 100))
  have KK := Box.new0 (w.alloc (.cells (f.cells pa pc oa oc) 36)) (kcells k.word k.cls k.has (.map mv) k.code) 100
  rw [World.size_alloc] at KK
  have HB := Lib.hid (((Below.refl w.heap.size w).alloc (Nat.le_refl _) (.cells (f.cells pa pc oa oc) 36)).alloc (by simp) (.cells (kcells k.word k.cls k.has (.map mv) k.code) 100))
  have c5 := (KF.cell 5).trans (show _ = some (.string ⟨f.ins.toArray⟩) from rfl)
  have c6 := (KF.cell 6).trans (show _ = some (.string ⟨f.other.toArray⟩) from rfl)
  have k16 := (KK.cell 16).trans (show _ = some (.bool false) from by rw [hc]; unfold kcells; rw [List.getElem?_toArray, List.getElem?_append_right (by simp [has_len])]; simp [has_len])
  have HN := Lib.hid (fun W => nameField_any f.other W (by omega))
  unfold otherErr
  unfold nameErr at HN
  have KF := Lib.hid KF
  have KK := Lib.hid KK
  generalize f.cells pa pc oa oc = fc at *
  generalize kcells k.word k.cls k.has (.map mv) k.code = kc at *
  generalize f.ins = ins at *
  generalize f.other = other at *
  generalize isName other = r at *
  cases heq : (other == ins) <;> cases r
  all_goals
    go_enter Tryz.func69, Tryz.ntmps69
    go_wp2_with fail
    refine (HN.out _).mono ?_
    rintro e w1 ⟨rfl, hb⟩
    have d6 := (hb.cell (p := ⟨w.heap.size, 6, none⟩) KF.out.1).trans c6
    go_wp2
    go_ret
    exact ⟨rfl, below_up HB.out hb⟩
set_option maxHeartbeats 2000000 in
set_option maxRecDepth 100000 in
theorem field_4 (f : FactP) (pa oa : Option Addr) (pc oc : Nat) (k : KindP) (mv : Option Nat) (w : World) (hE : Env w) (hs : f.small) (mb : Nat) (kvs : List (Int × Value)) (p q : Bool) (hm : mv = some mb) (ham : AtMap w mb kvs) (pv : Int × Value) (hfd : kvs.find? (fun p => p.1 == 4) = some pv) (hpq : (p && q) = false) (hl : LimAt w pv.2 (p, q)) :
    Calls Tryz.prog 69 #[.agg (f.cells pa pc oa oc), .agg (kcells k.word k.cls k.has (.map mv) k.code), .int .i64 4] w fun e w' => e = .returned (.int .i64 (lim p q (f.num 4).n (f.num 4).d)) ∧ Below w.heap.size w w' := by
  have KF := (Box.new0 w (f.cells pa pc oa oc) 36).below (below_alloc _ (.cells (kcells k.word k.cls k.has (.map mv) k.code) 100))
  have KK := Box.new0 (w.alloc (.cells (f.cells pa pc oa oc) 36)) (kcells k.word k.cls k.has (.map mv) k.code) 100
  rw [World.size_alloc] at KK
  have HB := Lib.hid (((Below.refl w.heap.size w).alloc (Nat.le_refl _) (.cells (f.cells pa pc oa oc) 36)).alloc (by simp) (.cells (kcells k.word k.cls k.has (.map mv) k.code) 100))
  obtain ⟨bp, bq, hpv, LP, LQ⟩ := hl
  have HLK : Hid (∀ W, AtMap W mb kvs → (Instr.lookup 98 (.map (some mb)) (.int .i64 4) false).run Tryz.prog W = .ok (.func (.func 122) #[] #[.pointer (some ⟨bp, 0, none⟩), .pointer (some ⟨bq, 0, none⟩)]) W) := fun W h => by
    have e := run_lookup_find (ok := false) Tryz.underlying98 Tryz.underlying3 h 4 pv hfd
    rw [hpv] at e
    exact e
  have HLD : Hid (∀ W, Box W w.heap.size (f.cells pa pc oa oc) 36 → (Instr.loadAt 36 (.pointer (some ⟨w.heap.size, 0, none⟩))).run Tryz.prog W = .ok (.agg (f.cells pa pc oa oc)) W) := fun W h => run_loadAt_box h Tryz.underlying36 rfl (factSize f pa oa pc oc)
  have HVAL := Lib.hid (fun W => value_4 f pa oa pc oc W)
  have hfs : (f.num 4).n.length ≤ 60 ∧ (f.num 4).d.length ≤ 60 := num_small hs 4
  have HLIM : Hid (∀ W, Env W → Box W bp #[.bool p] 4 → Box W bq #[.bool q] 4 → Calls Tryz.prog 122 #[(f.num 4).agg, .pointer (some ⟨bp, 0, none⟩), .pointer (some ⟨bq, 0, none⟩)] W fun e w' => e = .returned (.int .i64 (lim p q (f.num 4).n (f.num 4).d)) ∧ Below W.heap.size W w') := fun W hE h1 h2 => lim_pq p q hpq _ _ bp bq W hE hfs.1 hfs.2 h1 h2
  have HK15 : Hid ((kcells k.word k.cls k.has (.map mv) k.code)[15]? = some (.map (some mb))) := by show _ = _; rw [hm]; exact kcells_map
  have HE := Lib.hid hE
  have LP := Lib.hid LP
  have LQ := Lib.hid LQ
  have HAM := Lib.hid ham
  clear hE ham hfd hpq hm hpv hs hfs
  have KF := Lib.hid KF
  have KK := Lib.hid KK
  generalize f.cells pa pc oa oc = fc at *
  generalize kcells k.word k.cls k.has (.map mv) k.code = kc at *
  generalize lim p q (f.num 4).n (f.num 4).d = r at *
  generalize (f.num 4).agg = va at *
  go_enter Tryz.func69, Tryz.ntmps69
  go_wp2_with fail
  have HBc := below_drewN HB.out 1
  have KX := KK.out.below (below_drewN (Below.refl _ _) 1)
  have KY := KF.out.below (below_drewN (Below.refl _ _) 1)
  have AM := HAM.out.below HBc
  refine wp_region_held_drew (S := fun W => W.cell? ⟨w.heap.size + 1, 15, none⟩ = some (.map (some mb)) ∧ (Instr.lookup 98 (.map (some mb)) (.int .i64 4) false).run Tryz.prog W = .ok (.func (.func 122) #[] #[.pointer (some ⟨bp, 0, none⟩), .pointer (some ⟨bq, 0, none⟩)]) W ∧ (Instr.loadAt 36 (.pointer (some ⟨w.heap.size, 0, none⟩))).run Tryz.prog W = .ok (.agg fc) W) (by kernel_rfl) ?hS1 (fun hHeld => ?hR1)
  case hS1 => exact ⟨KX.cell 15 |>.trans HK15.out, HLK.out _ AM, HLD.out _ KY⟩
  refine take_op (i := 0) (some 11) (v := ?v2) rfl rfl (by kernel_rfl) (by kernel_rfl) (by kernel_rfl) (fun _ _ _ h => h) (Or.inl ⟨by rfl, ?hy2⟩) (by assumption) ?hR2
  case hy2 => (intro w hSw; (try dsimp only at hSw); go_simp; try rfl)
  simp only [Act.put, List.setIfInBounds_toArray, List.set_cons_zero, List.set_cons_succ]
  refine take_op (i := 1) (some 12) (v := ?v3) rfl rfl (by kernel_rfl) (by kernel_rfl) (by kernel_rfl) (fun _ _ _ h => h) (Or.inl ⟨by rfl, ?hy3⟩) (by assumption) ?hR3
  case hy3 => (intro w hSw; (try dsimp only at hSw); go_simp; try rfl)
  simp only [Act.put, List.setIfInBounds_toArray, List.set_cons_zero, List.set_cons_succ]
  refine take_op (i := 2) (some 13) (v := ?v4) rfl rfl (by kernel_rfl) (by kernel_rfl) (by kernel_rfl) (fun _ _ _ h => h) (Or.inl ⟨by rfl, ?hy4⟩) (by assumption) ?hR4
  case hy4 => (intro w hSw; (try dsimp only at hSw); go_simp; try rfl)
  simp only [Act.put, List.setIfInBounds_toArray, List.set_cons_zero, List.set_cons_succ]
  refine take_op (i := 3) (some 14) (v := ?v5) rfl rfl (by kernel_rfl) (by kernel_rfl) (by kernel_rfl) (fun _ _ _ h => h) (Or.inl ⟨by rfl, ?hy5⟩) (by assumption) ?hR5
  case hy5 => (intro w hSw; (try dsimp only at hSw); go_simp; try rfl)
  simp only [Act.put, List.setIfInBounds_toArray, List.set_cons_zero, List.set_cons_succ]
  refine take_op (i := 4) (some 15) (v := ?v6) rfl rfl (by kernel_rfl) (by kernel_rfl) (by kernel_rfl) (fun _ _ _ h => h) (Or.inl ⟨by rfl, ?hy6⟩) (by assumption) ?hR6
  case hy6 => (intro w hSw; refine Eq.trans (y_load rfl ?_ hSw.2.2) ?_; rfl; rfl)
  simp only [Act.put, List.setIfInBounds_toArray, List.set_cons_zero, List.set_cons_succ]
  refine take_op (i := 5) (some 16) (v := ?v7) rfl rfl (by kernel_rfl) (by kernel_rfl) (by kernel_rfl) (fun _ _ _ h => h) (Or.inl ⟨by rfl, ?hy7⟩) (by assumption) ?hR7
  case hy7 => (intro w hSw; (try dsimp only at hSw); go_simp; try rfl)
  simp only [Act.put, List.setIfInBounds_toArray, List.set_cons_zero, List.set_cons_succ]
  refine wpAnyH_ready (rs := [6]) (by kernel_rfl) (by simp) ?_
  refine AllReadyH.cons (o := _) rfl (fun K hK => ?hC8) AllReadyH.nil
  rw [if_pos (by rfl)]
  go_simp
  go_at_call 99
  refine (HVAL.out _).mono ?_
  rintro e wn ⟨rfl, hbn⟩
  replace HBc := below_up HBc hbn
  replace KX := KX.below hbn
  replace KY := KY.below hbn
  replace AM := AM.below hbn
  clear hbn
  go_wp2_with fail
  refine hK.out _ _ ?hS8 (fun hHeld => ?hR8)
  case hS8 => exact ⟨KX.cell 15 |>.trans HK15.out, HLK.out _ AM, HLD.out _ KY⟩
  try simp only [Act.put, List.setIfInBounds_toArray, List.set_cons_zero, List.set_cons_succ]
  refine wpAnyH_ready (rs := [7]) (by kernel_rfl) (by simp) ?_
  refine AllReadyH.cons (o := _) rfl (fun K hK => ?hC9) AllReadyH.nil
  rw [if_pos (by rfl)]
  go_simp
  go_at_call 122
  refine (HLIM.out _ (HE.out.below HBc) (LP.out.below HBc) (LQ.out.below HBc)).mono ?_
  rintro e wn ⟨rfl, hbn⟩
  replace HBc := below_up HBc hbn
  replace KX := KX.below hbn
  replace KY := KY.below hbn
  replace AM := AM.below hbn
  clear hbn
  go_wp2_with fail
  refine hK.out _ _ ?hS9 (fun hHeld => ?hR9)
  case hS9 => exact ⟨KX.cell 15 |>.trans HK15.out, HLK.out _ AM, HLD.out _ KY⟩
  try simp only [Act.put, List.setIfInBounds_toArray, List.set_cons_zero, List.set_cons_succ]
  refine take_op (i := 8) (some 6) (v := ?v10) rfl rfl (by kernel_rfl) (by kernel_rfl) (by kernel_rfl) (fun _ _ _ h => h) (Or.inl ⟨by rfl, ?hy10⟩) (by assumption) ?hR10
  case hy10 => (intro w hSw; (try dsimp only at hSw); go_simp; try rfl)
  simp only [Act.put, List.setIfInBounds_toArray, List.set_cons_zero, List.set_cons_succ]
  refine wpAnyH_done (by kernel_rfl) ?_ _
  go_wp2
  go_ret
  exact ⟨rfl, HBc⟩
set_option maxHeartbeats 2000000 in
set_option maxRecDepth 100000 in
theorem field_5 (f : FactP) (pa oa : Option Addr) (pc oc : Nat) (k : KindP) (mv : Option Nat) (w : World) (hE : Env w) (hs : f.small) (mb : Nat) (kvs : List (Int × Value)) (p q : Bool) (hm : mv = some mb) (ham : AtMap w mb kvs) (pv : Int × Value) (hfd : kvs.find? (fun p => p.1 == 5) = some pv) (hpq : (p && q) = false) (hl : LimAt w pv.2 (p, q)) :
    Calls Tryz.prog 69 #[.agg (f.cells pa pc oa oc), .agg (kcells k.word k.cls k.has (.map mv) k.code), .int .i64 5] w fun e w' => e = .returned (.int .i64 (lim p q (f.num 5).n (f.num 5).d)) ∧ Below w.heap.size w w' := by
  have KF := (Box.new0 w (f.cells pa pc oa oc) 36).below (below_alloc _ (.cells (kcells k.word k.cls k.has (.map mv) k.code) 100))
  have KK := Box.new0 (w.alloc (.cells (f.cells pa pc oa oc) 36)) (kcells k.word k.cls k.has (.map mv) k.code) 100
  rw [World.size_alloc] at KK
  have HB := Lib.hid (((Below.refl w.heap.size w).alloc (Nat.le_refl _) (.cells (f.cells pa pc oa oc) 36)).alloc (by simp) (.cells (kcells k.word k.cls k.has (.map mv) k.code) 100))
  obtain ⟨bp, bq, hpv, LP, LQ⟩ := hl
  have HLK : Hid (∀ W, AtMap W mb kvs → (Instr.lookup 98 (.map (some mb)) (.int .i64 5) false).run Tryz.prog W = .ok (.func (.func 122) #[] #[.pointer (some ⟨bp, 0, none⟩), .pointer (some ⟨bq, 0, none⟩)]) W) := fun W h => by
    have e := run_lookup_find (ok := false) Tryz.underlying98 Tryz.underlying3 h 5 pv hfd
    rw [hpv] at e
    exact e
  have HLD : Hid (∀ W, Box W w.heap.size (f.cells pa pc oa oc) 36 → (Instr.loadAt 36 (.pointer (some ⟨w.heap.size, 0, none⟩))).run Tryz.prog W = .ok (.agg (f.cells pa pc oa oc)) W) := fun W h => run_loadAt_box h Tryz.underlying36 rfl (factSize f pa oa pc oc)
  have HVAL := Lib.hid (fun W => value_5 f pa oa pc oc W)
  have hfs : (f.num 5).n.length ≤ 60 ∧ (f.num 5).d.length ≤ 60 := num_small hs 5
  have HLIM : Hid (∀ W, Env W → Box W bp #[.bool p] 4 → Box W bq #[.bool q] 4 → Calls Tryz.prog 122 #[(f.num 5).agg, .pointer (some ⟨bp, 0, none⟩), .pointer (some ⟨bq, 0, none⟩)] W fun e w' => e = .returned (.int .i64 (lim p q (f.num 5).n (f.num 5).d)) ∧ Below W.heap.size W w') := fun W hE h1 h2 => lim_pq p q hpq _ _ bp bq W hE hfs.1 hfs.2 h1 h2
  have HK15 : Hid ((kcells k.word k.cls k.has (.map mv) k.code)[15]? = some (.map (some mb))) := by show _ = _; rw [hm]; exact kcells_map
  have HE := Lib.hid hE
  have LP := Lib.hid LP
  have LQ := Lib.hid LQ
  have HAM := Lib.hid ham
  clear hE ham hfd hpq hm hpv hs hfs
  have KF := Lib.hid KF
  have KK := Lib.hid KK
  generalize f.cells pa pc oa oc = fc at *
  generalize kcells k.word k.cls k.has (.map mv) k.code = kc at *
  generalize lim p q (f.num 5).n (f.num 5).d = r at *
  generalize (f.num 5).agg = va at *
  go_enter Tryz.func69, Tryz.ntmps69
  go_wp2_with fail
  have HBc := below_drewN HB.out 1
  have KX := KK.out.below (below_drewN (Below.refl _ _) 1)
  have KY := KF.out.below (below_drewN (Below.refl _ _) 1)
  have AM := HAM.out.below HBc
  refine wp_region_held_drew (S := fun W => W.cell? ⟨w.heap.size + 1, 15, none⟩ = some (.map (some mb)) ∧ (Instr.lookup 98 (.map (some mb)) (.int .i64 5) false).run Tryz.prog W = .ok (.func (.func 122) #[] #[.pointer (some ⟨bp, 0, none⟩), .pointer (some ⟨bq, 0, none⟩)]) W ∧ (Instr.loadAt 36 (.pointer (some ⟨w.heap.size, 0, none⟩))).run Tryz.prog W = .ok (.agg fc) W) (by kernel_rfl) ?hS11 (fun hHeld => ?hR11)
  case hS11 => exact ⟨KX.cell 15 |>.trans HK15.out, HLK.out _ AM, HLD.out _ KY⟩
  refine take_op (i := 0) (some 11) (v := ?v12) rfl rfl (by kernel_rfl) (by kernel_rfl) (by kernel_rfl) (fun _ _ _ h => h) (Or.inl ⟨by rfl, ?hy12⟩) (by assumption) ?hR12
  case hy12 => (intro w hSw; (try dsimp only at hSw); go_simp; try rfl)
  simp only [Act.put, List.setIfInBounds_toArray, List.set_cons_zero, List.set_cons_succ]
  refine take_op (i := 1) (some 12) (v := ?v13) rfl rfl (by kernel_rfl) (by kernel_rfl) (by kernel_rfl) (fun _ _ _ h => h) (Or.inl ⟨by rfl, ?hy13⟩) (by assumption) ?hR13
  case hy13 => (intro w hSw; (try dsimp only at hSw); go_simp; try rfl)
  simp only [Act.put, List.setIfInBounds_toArray, List.set_cons_zero, List.set_cons_succ]
  refine take_op (i := 2) (some 13) (v := ?v14) rfl rfl (by kernel_rfl) (by kernel_rfl) (by kernel_rfl) (fun _ _ _ h => h) (Or.inl ⟨by rfl, ?hy14⟩) (by assumption) ?hR14
  case hy14 => (intro w hSw; (try dsimp only at hSw); go_simp; try rfl)
  simp only [Act.put, List.setIfInBounds_toArray, List.set_cons_zero, List.set_cons_succ]
  refine take_op (i := 3) (some 14) (v := ?v15) rfl rfl (by kernel_rfl) (by kernel_rfl) (by kernel_rfl) (fun _ _ _ h => h) (Or.inl ⟨by rfl, ?hy15⟩) (by assumption) ?hR15
  case hy15 => (intro w hSw; (try dsimp only at hSw); go_simp; try rfl)
  simp only [Act.put, List.setIfInBounds_toArray, List.set_cons_zero, List.set_cons_succ]
  refine take_op (i := 4) (some 15) (v := ?v16) rfl rfl (by kernel_rfl) (by kernel_rfl) (by kernel_rfl) (fun _ _ _ h => h) (Or.inl ⟨by rfl, ?hy16⟩) (by assumption) ?hR16
  case hy16 => (intro w hSw; refine Eq.trans (y_load rfl ?_ hSw.2.2) ?_; rfl; rfl)
  simp only [Act.put, List.setIfInBounds_toArray, List.set_cons_zero, List.set_cons_succ]
  refine take_op (i := 5) (some 16) (v := ?v17) rfl rfl (by kernel_rfl) (by kernel_rfl) (by kernel_rfl) (fun _ _ _ h => h) (Or.inl ⟨by rfl, ?hy17⟩) (by assumption) ?hR17
  case hy17 => (intro w hSw; (try dsimp only at hSw); go_simp; try rfl)
  simp only [Act.put, List.setIfInBounds_toArray, List.set_cons_zero, List.set_cons_succ]
  refine wpAnyH_ready (rs := [6]) (by kernel_rfl) (by simp) ?_
  refine AllReadyH.cons (o := _) rfl (fun K hK => ?hC18) AllReadyH.nil
  rw [if_pos (by rfl)]
  go_simp
  go_at_call 99
  refine (HVAL.out _).mono ?_
  rintro e wn ⟨rfl, hbn⟩
  replace HBc := below_up HBc hbn
  replace KX := KX.below hbn
  replace KY := KY.below hbn
  replace AM := AM.below hbn
  clear hbn
  go_wp2_with fail
  refine hK.out _ _ ?hS18 (fun hHeld => ?hR18)
  case hS18 => exact ⟨KX.cell 15 |>.trans HK15.out, HLK.out _ AM, HLD.out _ KY⟩
  try simp only [Act.put, List.setIfInBounds_toArray, List.set_cons_zero, List.set_cons_succ]
  refine wpAnyH_ready (rs := [7]) (by kernel_rfl) (by simp) ?_
  refine AllReadyH.cons (o := _) rfl (fun K hK => ?hC19) AllReadyH.nil
  rw [if_pos (by rfl)]
  go_simp
  go_at_call 122
  refine (HLIM.out _ (HE.out.below HBc) (LP.out.below HBc) (LQ.out.below HBc)).mono ?_
  rintro e wn ⟨rfl, hbn⟩
  replace HBc := below_up HBc hbn
  replace KX := KX.below hbn
  replace KY := KY.below hbn
  replace AM := AM.below hbn
  clear hbn
  go_wp2_with fail
  refine hK.out _ _ ?hS19 (fun hHeld => ?hR19)
  case hS19 => exact ⟨KX.cell 15 |>.trans HK15.out, HLK.out _ AM, HLD.out _ KY⟩
  try simp only [Act.put, List.setIfInBounds_toArray, List.set_cons_zero, List.set_cons_succ]
  refine take_op (i := 8) (some 6) (v := ?v20) rfl rfl (by kernel_rfl) (by kernel_rfl) (by kernel_rfl) (fun _ _ _ h => h) (Or.inl ⟨by rfl, ?hy20⟩) (by assumption) ?hR20
  case hy20 => (intro w hSw; (try dsimp only at hSw); go_simp; try rfl)
  simp only [Act.put, List.setIfInBounds_toArray, List.set_cons_zero, List.set_cons_succ]
  refine wpAnyH_done (by kernel_rfl) ?_ _
  go_wp2
  go_ret
  exact ⟨rfl, HBc⟩
set_option maxHeartbeats 2000000 in
set_option maxRecDepth 100000 in
theorem field_6 (f : FactP) (pa oa : Option Addr) (pc oc : Nat) (k : KindP) (mv : Option Nat) (w : World) (hE : Env w) (hs : f.small) (mb : Nat) (kvs : List (Int × Value)) (p q : Bool) (hm : mv = some mb) (ham : AtMap w mb kvs) (pv : Int × Value) (hfd : kvs.find? (fun p => p.1 == 6) = some pv) (hpq : (p && q) = false) (hl : LimAt w pv.2 (p, q)) :
    Calls Tryz.prog 69 #[.agg (f.cells pa pc oa oc), .agg (kcells k.word k.cls k.has (.map mv) k.code), .int .i64 6] w fun e w' => e = .returned (.int .i64 (lim p q (f.num 6).n (f.num 6).d)) ∧ Below w.heap.size w w' := by
  have KF := (Box.new0 w (f.cells pa pc oa oc) 36).below (below_alloc _ (.cells (kcells k.word k.cls k.has (.map mv) k.code) 100))
  have KK := Box.new0 (w.alloc (.cells (f.cells pa pc oa oc) 36)) (kcells k.word k.cls k.has (.map mv) k.code) 100
  rw [World.size_alloc] at KK
  have HB := Lib.hid (((Below.refl w.heap.size w).alloc (Nat.le_refl _) (.cells (f.cells pa pc oa oc) 36)).alloc (by simp) (.cells (kcells k.word k.cls k.has (.map mv) k.code) 100))
  obtain ⟨bp, bq, hpv, LP, LQ⟩ := hl
  have HLK : Hid (∀ W, AtMap W mb kvs → (Instr.lookup 98 (.map (some mb)) (.int .i64 6) false).run Tryz.prog W = .ok (.func (.func 122) #[] #[.pointer (some ⟨bp, 0, none⟩), .pointer (some ⟨bq, 0, none⟩)]) W) := fun W h => by
    have e := run_lookup_find (ok := false) Tryz.underlying98 Tryz.underlying3 h 6 pv hfd
    rw [hpv] at e
    exact e
  have HLD : Hid (∀ W, Box W w.heap.size (f.cells pa pc oa oc) 36 → (Instr.loadAt 36 (.pointer (some ⟨w.heap.size, 0, none⟩))).run Tryz.prog W = .ok (.agg (f.cells pa pc oa oc)) W) := fun W h => run_loadAt_box h Tryz.underlying36 rfl (factSize f pa oa pc oc)
  have HVAL := Lib.hid (fun W => value_6 f pa oa pc oc W)
  have hfs : (f.num 6).n.length ≤ 60 ∧ (f.num 6).d.length ≤ 60 := num_small hs 6
  have HLIM : Hid (∀ W, Env W → Box W bp #[.bool p] 4 → Box W bq #[.bool q] 4 → Calls Tryz.prog 122 #[(f.num 6).agg, .pointer (some ⟨bp, 0, none⟩), .pointer (some ⟨bq, 0, none⟩)] W fun e w' => e = .returned (.int .i64 (lim p q (f.num 6).n (f.num 6).d)) ∧ Below W.heap.size W w') := fun W hE h1 h2 => lim_pq p q hpq _ _ bp bq W hE hfs.1 hfs.2 h1 h2
  have HK15 : Hid ((kcells k.word k.cls k.has (.map mv) k.code)[15]? = some (.map (some mb))) := by show _ = _; rw [hm]; exact kcells_map
  have HE := Lib.hid hE
  have LP := Lib.hid LP
  have LQ := Lib.hid LQ
  have HAM := Lib.hid ham
  clear hE ham hfd hpq hm hpv hs hfs
  have KF := Lib.hid KF
  have KK := Lib.hid KK
  generalize f.cells pa pc oa oc = fc at *
  generalize kcells k.word k.cls k.has (.map mv) k.code = kc at *
  generalize lim p q (f.num 6).n (f.num 6).d = r at *
  generalize (f.num 6).agg = va at *
  go_enter Tryz.func69, Tryz.ntmps69
  go_wp2_with fail
  have HBc := below_drewN HB.out 1
  have KX := KK.out.below (below_drewN (Below.refl _ _) 1)
  have KY := KF.out.below (below_drewN (Below.refl _ _) 1)
  have AM := HAM.out.below HBc
  refine wp_region_held_drew (S := fun W => W.cell? ⟨w.heap.size + 1, 15, none⟩ = some (.map (some mb)) ∧ (Instr.lookup 98 (.map (some mb)) (.int .i64 6) false).run Tryz.prog W = .ok (.func (.func 122) #[] #[.pointer (some ⟨bp, 0, none⟩), .pointer (some ⟨bq, 0, none⟩)]) W ∧ (Instr.loadAt 36 (.pointer (some ⟨w.heap.size, 0, none⟩))).run Tryz.prog W = .ok (.agg fc) W) (by kernel_rfl) ?hS21 (fun hHeld => ?hR21)
  case hS21 => exact ⟨KX.cell 15 |>.trans HK15.out, HLK.out _ AM, HLD.out _ KY⟩
  refine take_op (i := 0) (some 11) (v := ?v22) rfl rfl (by kernel_rfl) (by kernel_rfl) (by kernel_rfl) (fun _ _ _ h => h) (Or.inl ⟨by rfl, ?hy22⟩) (by assumption) ?hR22
  case hy22 => (intro w hSw; (try dsimp only at hSw); go_simp; try rfl)
  simp only [Act.put, List.setIfInBounds_toArray, List.set_cons_zero, List.set_cons_succ]
  refine take_op (i := 1) (some 12) (v := ?v23) rfl rfl (by kernel_rfl) (by kernel_rfl) (by kernel_rfl) (fun _ _ _ h => h) (Or.inl ⟨by rfl, ?hy23⟩) (by assumption) ?hR23
  case hy23 => (intro w hSw; (try dsimp only at hSw); go_simp; try rfl)
  simp only [Act.put, List.setIfInBounds_toArray, List.set_cons_zero, List.set_cons_succ]
  refine take_op (i := 2) (some 13) (v := ?v24) rfl rfl (by kernel_rfl) (by kernel_rfl) (by kernel_rfl) (fun _ _ _ h => h) (Or.inl ⟨by rfl, ?hy24⟩) (by assumption) ?hR24
  case hy24 => (intro w hSw; (try dsimp only at hSw); go_simp; try rfl)
  simp only [Act.put, List.setIfInBounds_toArray, List.set_cons_zero, List.set_cons_succ]
  refine take_op (i := 3) (some 14) (v := ?v25) rfl rfl (by kernel_rfl) (by kernel_rfl) (by kernel_rfl) (fun _ _ _ h => h) (Or.inl ⟨by rfl, ?hy25⟩) (by assumption) ?hR25
  case hy25 => (intro w hSw; (try dsimp only at hSw); go_simp; try rfl)
  simp only [Act.put, List.setIfInBounds_toArray, List.set_cons_zero, List.set_cons_succ]
  refine take_op (i := 4) (some 15) (v := ?v26) rfl rfl (by kernel_rfl) (by kernel_rfl) (by kernel_rfl) (fun _ _ _ h => h) (Or.inl ⟨by rfl, ?hy26⟩) (by assumption) ?hR26
  case hy26 => (intro w hSw; refine Eq.trans (y_load rfl ?_ hSw.2.2) ?_; rfl; rfl)
  simp only [Act.put, List.setIfInBounds_toArray, List.set_cons_zero, List.set_cons_succ]
  refine take_op (i := 5) (some 16) (v := ?v27) rfl rfl (by kernel_rfl) (by kernel_rfl) (by kernel_rfl) (fun _ _ _ h => h) (Or.inl ⟨by rfl, ?hy27⟩) (by assumption) ?hR27
  case hy27 => (intro w hSw; (try dsimp only at hSw); go_simp; try rfl)
  simp only [Act.put, List.setIfInBounds_toArray, List.set_cons_zero, List.set_cons_succ]
  refine wpAnyH_ready (rs := [6]) (by kernel_rfl) (by simp) ?_
  refine AllReadyH.cons (o := _) rfl (fun K hK => ?hC28) AllReadyH.nil
  rw [if_pos (by rfl)]
  go_simp
  go_at_call 99
  refine (HVAL.out _).mono ?_
  rintro e wn ⟨rfl, hbn⟩
  replace HBc := below_up HBc hbn
  replace KX := KX.below hbn
  replace KY := KY.below hbn
  replace AM := AM.below hbn
  clear hbn
  go_wp2_with fail
  refine hK.out _ _ ?hS28 (fun hHeld => ?hR28)
  case hS28 => exact ⟨KX.cell 15 |>.trans HK15.out, HLK.out _ AM, HLD.out _ KY⟩
  try simp only [Act.put, List.setIfInBounds_toArray, List.set_cons_zero, List.set_cons_succ]
  refine wpAnyH_ready (rs := [7]) (by kernel_rfl) (by simp) ?_
  refine AllReadyH.cons (o := _) rfl (fun K hK => ?hC29) AllReadyH.nil
  rw [if_pos (by rfl)]
  go_simp
  go_at_call 122
  refine (HLIM.out _ (HE.out.below HBc) (LP.out.below HBc) (LQ.out.below HBc)).mono ?_
  rintro e wn ⟨rfl, hbn⟩
  replace HBc := below_up HBc hbn
  replace KX := KX.below hbn
  replace KY := KY.below hbn
  replace AM := AM.below hbn
  clear hbn
  go_wp2_with fail
  refine hK.out _ _ ?hS29 (fun hHeld => ?hR29)
  case hS29 => exact ⟨KX.cell 15 |>.trans HK15.out, HLK.out _ AM, HLD.out _ KY⟩
  try simp only [Act.put, List.setIfInBounds_toArray, List.set_cons_zero, List.set_cons_succ]
  refine take_op (i := 8) (some 6) (v := ?v30) rfl rfl (by kernel_rfl) (by kernel_rfl) (by kernel_rfl) (fun _ _ _ h => h) (Or.inl ⟨by rfl, ?hy30⟩) (by assumption) ?hR30
  case hy30 => (intro w hSw; (try dsimp only at hSw); go_simp; try rfl)
  simp only [Act.put, List.setIfInBounds_toArray, List.set_cons_zero, List.set_cons_succ]
  refine wpAnyH_done (by kernel_rfl) ?_ _
  go_wp2
  go_ret
  exact ⟨rfl, HBc⟩
set_option maxHeartbeats 2000000 in
set_option maxRecDepth 100000 in
theorem field_7 (f : FactP) (pa oa : Option Addr) (pc oc : Nat) (k : KindP) (mv : Option Nat) (w : World) (hE : Env w) (hs : f.small) (mb : Nat) (kvs : List (Int × Value)) (p q : Bool) (hm : mv = some mb) (ham : AtMap w mb kvs) (pv : Int × Value) (hfd : kvs.find? (fun p => p.1 == 7) = some pv) (hpq : (p && q) = false) (hl : LimAt w pv.2 (p, q)) :
    Calls Tryz.prog 69 #[.agg (f.cells pa pc oa oc), .agg (kcells k.word k.cls k.has (.map mv) k.code), .int .i64 7] w fun e w' => e = .returned (.int .i64 (lim p q (f.num 7).n (f.num 7).d)) ∧ Below w.heap.size w w' := by
  have KF := (Box.new0 w (f.cells pa pc oa oc) 36).below (below_alloc _ (.cells (kcells k.word k.cls k.has (.map mv) k.code) 100))
  have KK := Box.new0 (w.alloc (.cells (f.cells pa pc oa oc) 36)) (kcells k.word k.cls k.has (.map mv) k.code) 100
  rw [World.size_alloc] at KK
  have HB := Lib.hid (((Below.refl w.heap.size w).alloc (Nat.le_refl _) (.cells (f.cells pa pc oa oc) 36)).alloc (by simp) (.cells (kcells k.word k.cls k.has (.map mv) k.code) 100))
  obtain ⟨bp, bq, hpv, LP, LQ⟩ := hl
  have HLK : Hid (∀ W, AtMap W mb kvs → (Instr.lookup 98 (.map (some mb)) (.int .i64 7) false).run Tryz.prog W = .ok (.func (.func 122) #[] #[.pointer (some ⟨bp, 0, none⟩), .pointer (some ⟨bq, 0, none⟩)]) W) := fun W h => by
    have e := run_lookup_find (ok := false) Tryz.underlying98 Tryz.underlying3 h 7 pv hfd
    rw [hpv] at e
    exact e
  have HLD : Hid (∀ W, Box W w.heap.size (f.cells pa pc oa oc) 36 → (Instr.loadAt 36 (.pointer (some ⟨w.heap.size, 0, none⟩))).run Tryz.prog W = .ok (.agg (f.cells pa pc oa oc)) W) := fun W h => run_loadAt_box h Tryz.underlying36 rfl (factSize f pa oa pc oc)
  have HVAL := Lib.hid (fun W => value_7 f pa oa pc oc W)
  have hfs : (f.num 7).n.length ≤ 60 ∧ (f.num 7).d.length ≤ 60 := num_small hs 7
  have HLIM : Hid (∀ W, Env W → Box W bp #[.bool p] 4 → Box W bq #[.bool q] 4 → Calls Tryz.prog 122 #[(f.num 7).agg, .pointer (some ⟨bp, 0, none⟩), .pointer (some ⟨bq, 0, none⟩)] W fun e w' => e = .returned (.int .i64 (lim p q (f.num 7).n (f.num 7).d)) ∧ Below W.heap.size W w') := fun W hE h1 h2 => lim_pq p q hpq _ _ bp bq W hE hfs.1 hfs.2 h1 h2
  have HK15 : Hid ((kcells k.word k.cls k.has (.map mv) k.code)[15]? = some (.map (some mb))) := by show _ = _; rw [hm]; exact kcells_map
  have HE := Lib.hid hE
  have LP := Lib.hid LP
  have LQ := Lib.hid LQ
  have HAM := Lib.hid ham
  clear hE ham hfd hpq hm hpv hs hfs
  have KF := Lib.hid KF
  have KK := Lib.hid KK
  generalize f.cells pa pc oa oc = fc at *
  generalize kcells k.word k.cls k.has (.map mv) k.code = kc at *
  generalize lim p q (f.num 7).n (f.num 7).d = r at *
  generalize (f.num 7).agg = va at *
  go_enter Tryz.func69, Tryz.ntmps69
  go_wp2_with fail
  have HBc := below_drewN HB.out 1
  have KX := KK.out.below (below_drewN (Below.refl _ _) 1)
  have KY := KF.out.below (below_drewN (Below.refl _ _) 1)
  have AM := HAM.out.below HBc
  refine wp_region_held_drew (S := fun W => W.cell? ⟨w.heap.size + 1, 15, none⟩ = some (.map (some mb)) ∧ (Instr.lookup 98 (.map (some mb)) (.int .i64 7) false).run Tryz.prog W = .ok (.func (.func 122) #[] #[.pointer (some ⟨bp, 0, none⟩), .pointer (some ⟨bq, 0, none⟩)]) W ∧ (Instr.loadAt 36 (.pointer (some ⟨w.heap.size, 0, none⟩))).run Tryz.prog W = .ok (.agg fc) W) (by kernel_rfl) ?hS31 (fun hHeld => ?hR31)
  case hS31 => exact ⟨KX.cell 15 |>.trans HK15.out, HLK.out _ AM, HLD.out _ KY⟩
  refine take_op (i := 0) (some 11) (v := ?v32) rfl rfl (by kernel_rfl) (by kernel_rfl) (by kernel_rfl) (fun _ _ _ h => h) (Or.inl ⟨by rfl, ?hy32⟩) (by assumption) ?hR32
  case hy32 => (intro w hSw; (try dsimp only at hSw); go_simp; try rfl)
  simp only [Act.put, List.setIfInBounds_toArray, List.set_cons_zero, List.set_cons_succ]
  refine take_op (i := 1) (some 12) (v := ?v33) rfl rfl (by kernel_rfl) (by kernel_rfl) (by kernel_rfl) (fun _ _ _ h => h) (Or.inl ⟨by rfl, ?hy33⟩) (by assumption) ?hR33
  case hy33 => (intro w hSw; (try dsimp only at hSw); go_simp; try rfl)
  simp only [Act.put, List.setIfInBounds_toArray, List.set_cons_zero, List.set_cons_succ]
  refine take_op (i := 2) (some 13) (v := ?v34) rfl rfl (by kernel_rfl) (by kernel_rfl) (by kernel_rfl) (fun _ _ _ h => h) (Or.inl ⟨by rfl, ?hy34⟩) (by assumption) ?hR34
  case hy34 => (intro w hSw; (try dsimp only at hSw); go_simp; try rfl)
  simp only [Act.put, List.setIfInBounds_toArray, List.set_cons_zero, List.set_cons_succ]
  refine take_op (i := 3) (some 14) (v := ?v35) rfl rfl (by kernel_rfl) (by kernel_rfl) (by kernel_rfl) (fun _ _ _ h => h) (Or.inl ⟨by rfl, ?hy35⟩) (by assumption) ?hR35
  case hy35 => (intro w hSw; (try dsimp only at hSw); go_simp; try rfl)
  simp only [Act.put, List.setIfInBounds_toArray, List.set_cons_zero, List.set_cons_succ]
  refine take_op (i := 4) (some 15) (v := ?v36) rfl rfl (by kernel_rfl) (by kernel_rfl) (by kernel_rfl) (fun _ _ _ h => h) (Or.inl ⟨by rfl, ?hy36⟩) (by assumption) ?hR36
  case hy36 => (intro w hSw; refine Eq.trans (y_load rfl ?_ hSw.2.2) ?_; rfl; rfl)
  simp only [Act.put, List.setIfInBounds_toArray, List.set_cons_zero, List.set_cons_succ]
  refine take_op (i := 5) (some 16) (v := ?v37) rfl rfl (by kernel_rfl) (by kernel_rfl) (by kernel_rfl) (fun _ _ _ h => h) (Or.inl ⟨by rfl, ?hy37⟩) (by assumption) ?hR37
  case hy37 => (intro w hSw; (try dsimp only at hSw); go_simp; try rfl)
  simp only [Act.put, List.setIfInBounds_toArray, List.set_cons_zero, List.set_cons_succ]
  refine wpAnyH_ready (rs := [6]) (by kernel_rfl) (by simp) ?_
  refine AllReadyH.cons (o := _) rfl (fun K hK => ?hC38) AllReadyH.nil
  rw [if_pos (by rfl)]
  go_simp
  go_at_call 99
  refine (HVAL.out _).mono ?_
  rintro e wn ⟨rfl, hbn⟩
  replace HBc := below_up HBc hbn
  replace KX := KX.below hbn
  replace KY := KY.below hbn
  replace AM := AM.below hbn
  clear hbn
  go_wp2_with fail
  refine hK.out _ _ ?hS38 (fun hHeld => ?hR38)
  case hS38 => exact ⟨KX.cell 15 |>.trans HK15.out, HLK.out _ AM, HLD.out _ KY⟩
  try simp only [Act.put, List.setIfInBounds_toArray, List.set_cons_zero, List.set_cons_succ]
  refine wpAnyH_ready (rs := [7]) (by kernel_rfl) (by simp) ?_
  refine AllReadyH.cons (o := _) rfl (fun K hK => ?hC39) AllReadyH.nil
  rw [if_pos (by rfl)]
  go_simp
  go_at_call 122
  refine (HLIM.out _ (HE.out.below HBc) (LP.out.below HBc) (LQ.out.below HBc)).mono ?_
  rintro e wn ⟨rfl, hbn⟩
  replace HBc := below_up HBc hbn
  replace KX := KX.below hbn
  replace KY := KY.below hbn
  replace AM := AM.below hbn
  clear hbn
  go_wp2_with fail
  refine hK.out _ _ ?hS39 (fun hHeld => ?hR39)
  case hS39 => exact ⟨KX.cell 15 |>.trans HK15.out, HLK.out _ AM, HLD.out _ KY⟩
  try simp only [Act.put, List.setIfInBounds_toArray, List.set_cons_zero, List.set_cons_succ]
  refine take_op (i := 8) (some 6) (v := ?v40) rfl rfl (by kernel_rfl) (by kernel_rfl) (by kernel_rfl) (fun _ _ _ h => h) (Or.inl ⟨by rfl, ?hy40⟩) (by assumption) ?hR40
  case hy40 => (intro w hSw; (try dsimp only at hSw); go_simp; try rfl)
  simp only [Act.put, List.setIfInBounds_toArray, List.set_cons_zero, List.set_cons_succ]
  refine wpAnyH_done (by kernel_rfl) ?_ _
  go_wp2
  go_ret
  exact ⟨rfl, HBc⟩
set_option maxHeartbeats 2000000 in
set_option maxRecDepth 100000 in
theorem field_8 (f : FactP) (pa oa : Option Addr) (pc oc : Nat) (k : KindP) (mv : Option Nat) (w : World) (hE : Env w) (hs : f.small) (mb : Nat) (kvs : List (Int × Value)) (p q : Bool) (hm : mv = some mb) (ham : AtMap w mb kvs) (pv : Int × Value) (hfd : kvs.find? (fun p => p.1 == 8) = some pv) (hpq : (p && q) = false) (hl : LimAt w pv.2 (p, q)) :
    Calls Tryz.prog 69 #[.agg (f.cells pa pc oa oc), .agg (kcells k.word k.cls k.has (.map mv) k.code), .int .i64 8] w fun e w' => e = .returned (.int .i64 (lim p q (f.num 8).n (f.num 8).d)) ∧ Below w.heap.size w w' := by
  have KF := (Box.new0 w (f.cells pa pc oa oc) 36).below (below_alloc _ (.cells (kcells k.word k.cls k.has (.map mv) k.code) 100))
  have KK := Box.new0 (w.alloc (.cells (f.cells pa pc oa oc) 36)) (kcells k.word k.cls k.has (.map mv) k.code) 100
  rw [World.size_alloc] at KK
  have HB := Lib.hid (((Below.refl w.heap.size w).alloc (Nat.le_refl _) (.cells (f.cells pa pc oa oc) 36)).alloc (by simp) (.cells (kcells k.word k.cls k.has (.map mv) k.code) 100))
  obtain ⟨bp, bq, hpv, LP, LQ⟩ := hl
  have HLK : Hid (∀ W, AtMap W mb kvs → (Instr.lookup 98 (.map (some mb)) (.int .i64 8) false).run Tryz.prog W = .ok (.func (.func 122) #[] #[.pointer (some ⟨bp, 0, none⟩), .pointer (some ⟨bq, 0, none⟩)]) W) := fun W h => by
    have e := run_lookup_find (ok := false) Tryz.underlying98 Tryz.underlying3 h 8 pv hfd
    rw [hpv] at e
    exact e
  have HLD : Hid (∀ W, Box W w.heap.size (f.cells pa pc oa oc) 36 → (Instr.loadAt 36 (.pointer (some ⟨w.heap.size, 0, none⟩))).run Tryz.prog W = .ok (.agg (f.cells pa pc oa oc)) W) := fun W h => run_loadAt_box h Tryz.underlying36 rfl (factSize f pa oa pc oc)
  have HVAL := Lib.hid (fun W => value_8 f pa oa pc oc W)
  have hfs : (f.num 8).n.length ≤ 60 ∧ (f.num 8).d.length ≤ 60 := num_small hs 8
  have HLIM : Hid (∀ W, Env W → Box W bp #[.bool p] 4 → Box W bq #[.bool q] 4 → Calls Tryz.prog 122 #[(f.num 8).agg, .pointer (some ⟨bp, 0, none⟩), .pointer (some ⟨bq, 0, none⟩)] W fun e w' => e = .returned (.int .i64 (lim p q (f.num 8).n (f.num 8).d)) ∧ Below W.heap.size W w') := fun W hE h1 h2 => lim_pq p q hpq _ _ bp bq W hE hfs.1 hfs.2 h1 h2
  have HK15 : Hid ((kcells k.word k.cls k.has (.map mv) k.code)[15]? = some (.map (some mb))) := by show _ = _; rw [hm]; exact kcells_map
  have HE := Lib.hid hE
  have LP := Lib.hid LP
  have LQ := Lib.hid LQ
  have HAM := Lib.hid ham
  clear hE ham hfd hpq hm hpv hs hfs
  have KF := Lib.hid KF
  have KK := Lib.hid KK
  generalize f.cells pa pc oa oc = fc at *
  generalize kcells k.word k.cls k.has (.map mv) k.code = kc at *
  generalize lim p q (f.num 8).n (f.num 8).d = r at *
  generalize (f.num 8).agg = va at *
  go_enter Tryz.func69, Tryz.ntmps69
  go_wp2_with fail
  have HBc := below_drewN HB.out 1
  have KX := KK.out.below (below_drewN (Below.refl _ _) 1)
  have KY := KF.out.below (below_drewN (Below.refl _ _) 1)
  have AM := HAM.out.below HBc
  refine wp_region_held_drew (S := fun W => W.cell? ⟨w.heap.size + 1, 15, none⟩ = some (.map (some mb)) ∧ (Instr.lookup 98 (.map (some mb)) (.int .i64 8) false).run Tryz.prog W = .ok (.func (.func 122) #[] #[.pointer (some ⟨bp, 0, none⟩), .pointer (some ⟨bq, 0, none⟩)]) W ∧ (Instr.loadAt 36 (.pointer (some ⟨w.heap.size, 0, none⟩))).run Tryz.prog W = .ok (.agg fc) W) (by kernel_rfl) ?hS41 (fun hHeld => ?hR41)
  case hS41 => exact ⟨KX.cell 15 |>.trans HK15.out, HLK.out _ AM, HLD.out _ KY⟩
  refine take_op (i := 0) (some 11) (v := ?v42) rfl rfl (by kernel_rfl) (by kernel_rfl) (by kernel_rfl) (fun _ _ _ h => h) (Or.inl ⟨by rfl, ?hy42⟩) (by assumption) ?hR42
  case hy42 => (intro w hSw; (try dsimp only at hSw); go_simp; try rfl)
  simp only [Act.put, List.setIfInBounds_toArray, List.set_cons_zero, List.set_cons_succ]
  refine take_op (i := 1) (some 12) (v := ?v43) rfl rfl (by kernel_rfl) (by kernel_rfl) (by kernel_rfl) (fun _ _ _ h => h) (Or.inl ⟨by rfl, ?hy43⟩) (by assumption) ?hR43
  case hy43 => (intro w hSw; (try dsimp only at hSw); go_simp; try rfl)
  simp only [Act.put, List.setIfInBounds_toArray, List.set_cons_zero, List.set_cons_succ]
  refine take_op (i := 2) (some 13) (v := ?v44) rfl rfl (by kernel_rfl) (by kernel_rfl) (by kernel_rfl) (fun _ _ _ h => h) (Or.inl ⟨by rfl, ?hy44⟩) (by assumption) ?hR44
  case hy44 => (intro w hSw; (try dsimp only at hSw); go_simp; try rfl)
  simp only [Act.put, List.setIfInBounds_toArray, List.set_cons_zero, List.set_cons_succ]
  refine take_op (i := 3) (some 14) (v := ?v45) rfl rfl (by kernel_rfl) (by kernel_rfl) (by kernel_rfl) (fun _ _ _ h => h) (Or.inl ⟨by rfl, ?hy45⟩) (by assumption) ?hR45
  case hy45 => (intro w hSw; (try dsimp only at hSw); go_simp; try rfl)
  simp only [Act.put, List.setIfInBounds_toArray, List.set_cons_zero, List.set_cons_succ]
  refine take_op (i := 4) (some 15) (v := ?v46) rfl rfl (by kernel_rfl) (by kernel_rfl) (by kernel_rfl) (fun _ _ _ h => h) (Or.inl ⟨by rfl, ?hy46⟩) (by assumption) ?hR46
  case hy46 => (intro w hSw; refine Eq.trans (y_load rfl ?_ hSw.2.2) ?_; rfl; rfl)
  simp only [Act.put, List.setIfInBounds_toArray, List.set_cons_zero, List.set_cons_succ]
  refine take_op (i := 5) (some 16) (v := ?v47) rfl rfl (by kernel_rfl) (by kernel_rfl) (by kernel_rfl) (fun _ _ _ h => h) (Or.inl ⟨by rfl, ?hy47⟩) (by assumption) ?hR47
  case hy47 => (intro w hSw; (try dsimp only at hSw); go_simp; try rfl)
  simp only [Act.put, List.setIfInBounds_toArray, List.set_cons_zero, List.set_cons_succ]
  refine wpAnyH_ready (rs := [6]) (by kernel_rfl) (by simp) ?_
  refine AllReadyH.cons (o := _) rfl (fun K hK => ?hC48) AllReadyH.nil
  rw [if_pos (by rfl)]
  go_simp
  go_at_call 99
  refine (HVAL.out _).mono ?_
  rintro e wn ⟨rfl, hbn⟩
  replace HBc := below_up HBc hbn
  replace KX := KX.below hbn
  replace KY := KY.below hbn
  replace AM := AM.below hbn
  clear hbn
  go_wp2_with fail
  refine hK.out _ _ ?hS48 (fun hHeld => ?hR48)
  case hS48 => exact ⟨KX.cell 15 |>.trans HK15.out, HLK.out _ AM, HLD.out _ KY⟩
  try simp only [Act.put, List.setIfInBounds_toArray, List.set_cons_zero, List.set_cons_succ]
  refine wpAnyH_ready (rs := [7]) (by kernel_rfl) (by simp) ?_
  refine AllReadyH.cons (o := _) rfl (fun K hK => ?hC49) AllReadyH.nil
  rw [if_pos (by rfl)]
  go_simp
  go_at_call 122
  refine (HLIM.out _ (HE.out.below HBc) (LP.out.below HBc) (LQ.out.below HBc)).mono ?_
  rintro e wn ⟨rfl, hbn⟩
  replace HBc := below_up HBc hbn
  replace KX := KX.below hbn
  replace KY := KY.below hbn
  replace AM := AM.below hbn
  clear hbn
  go_wp2_with fail
  refine hK.out _ _ ?hS49 (fun hHeld => ?hR49)
  case hS49 => exact ⟨KX.cell 15 |>.trans HK15.out, HLK.out _ AM, HLD.out _ KY⟩
  try simp only [Act.put, List.setIfInBounds_toArray, List.set_cons_zero, List.set_cons_succ]
  refine take_op (i := 8) (some 6) (v := ?v50) rfl rfl (by kernel_rfl) (by kernel_rfl) (by kernel_rfl) (fun _ _ _ h => h) (Or.inl ⟨by rfl, ?hy50⟩) (by assumption) ?hR50
  case hy50 => (intro w hSw; (try dsimp only at hSw); go_simp; try rfl)
  simp only [Act.put, List.setIfInBounds_toArray, List.set_cons_zero, List.set_cons_succ]
  refine wpAnyH_done (by kernel_rfl) ?_ _
  go_wp2
  go_ret
  exact ⟨rfl, HBc⟩
set_option maxHeartbeats 2000000 in
set_option maxRecDepth 100000 in
theorem field_9 (f : FactP) (pa oa : Option Addr) (pc oc : Nat) (k : KindP) (mv : Option Nat) (w : World) (hE : Env w) (hs : f.small) (mb : Nat) (kvs : List (Int × Value)) (p q : Bool) (hm : mv = some mb) (ham : AtMap w mb kvs) (pv : Int × Value) (hfd : kvs.find? (fun p => p.1 == 9) = some pv) (hpq : (p && q) = false) (hl : LimAt w pv.2 (p, q)) :
    Calls Tryz.prog 69 #[.agg (f.cells pa pc oa oc), .agg (kcells k.word k.cls k.has (.map mv) k.code), .int .i64 9] w fun e w' => e = .returned (.int .i64 (lim p q (f.num 9).n (f.num 9).d)) ∧ Below w.heap.size w w' := by
  have KF := (Box.new0 w (f.cells pa pc oa oc) 36).below (below_alloc _ (.cells (kcells k.word k.cls k.has (.map mv) k.code) 100))
  have KK := Box.new0 (w.alloc (.cells (f.cells pa pc oa oc) 36)) (kcells k.word k.cls k.has (.map mv) k.code) 100
  rw [World.size_alloc] at KK
  have HB := Lib.hid (((Below.refl w.heap.size w).alloc (Nat.le_refl _) (.cells (f.cells pa pc oa oc) 36)).alloc (by simp) (.cells (kcells k.word k.cls k.has (.map mv) k.code) 100))
  obtain ⟨bp, bq, hpv, LP, LQ⟩ := hl
  have HLK : Hid (∀ W, AtMap W mb kvs → (Instr.lookup 98 (.map (some mb)) (.int .i64 9) false).run Tryz.prog W = .ok (.func (.func 122) #[] #[.pointer (some ⟨bp, 0, none⟩), .pointer (some ⟨bq, 0, none⟩)]) W) := fun W h => by
    have e := run_lookup_find (ok := false) Tryz.underlying98 Tryz.underlying3 h 9 pv hfd
    rw [hpv] at e
    exact e
  have HLD : Hid (∀ W, Box W w.heap.size (f.cells pa pc oa oc) 36 → (Instr.loadAt 36 (.pointer (some ⟨w.heap.size, 0, none⟩))).run Tryz.prog W = .ok (.agg (f.cells pa pc oa oc)) W) := fun W h => run_loadAt_box h Tryz.underlying36 rfl (factSize f pa oa pc oc)
  have HVAL := Lib.hid (fun W => value_9 f pa oa pc oc W)
  have hfs : (f.num 9).n.length ≤ 60 ∧ (f.num 9).d.length ≤ 60 := num_small hs 9
  have HLIM : Hid (∀ W, Env W → Box W bp #[.bool p] 4 → Box W bq #[.bool q] 4 → Calls Tryz.prog 122 #[(f.num 9).agg, .pointer (some ⟨bp, 0, none⟩), .pointer (some ⟨bq, 0, none⟩)] W fun e w' => e = .returned (.int .i64 (lim p q (f.num 9).n (f.num 9).d)) ∧ Below W.heap.size W w') := fun W hE h1 h2 => lim_pq p q hpq _ _ bp bq W hE hfs.1 hfs.2 h1 h2
  have HK15 : Hid ((kcells k.word k.cls k.has (.map mv) k.code)[15]? = some (.map (some mb))) := by show _ = _; rw [hm]; exact kcells_map
  have HE := Lib.hid hE
  have LP := Lib.hid LP
  have LQ := Lib.hid LQ
  have HAM := Lib.hid ham
  clear hE ham hfd hpq hm hpv hs hfs
  have KF := Lib.hid KF
  have KK := Lib.hid KK
  generalize f.cells pa pc oa oc = fc at *
  generalize kcells k.word k.cls k.has (.map mv) k.code = kc at *
  generalize lim p q (f.num 9).n (f.num 9).d = r at *
  generalize (f.num 9).agg = va at *
  go_enter Tryz.func69, Tryz.ntmps69
  go_wp2_with fail
  have HBc := below_drewN HB.out 1
  have KX := KK.out.below (below_drewN (Below.refl _ _) 1)
  have KY := KF.out.below (below_drewN (Below.refl _ _) 1)
  have AM := HAM.out.below HBc
  refine wp_region_held_drew (S := fun W => W.cell? ⟨w.heap.size + 1, 15, none⟩ = some (.map (some mb)) ∧ (Instr.lookup 98 (.map (some mb)) (.int .i64 9) false).run Tryz.prog W = .ok (.func (.func 122) #[] #[.pointer (some ⟨bp, 0, none⟩), .pointer (some ⟨bq, 0, none⟩)]) W ∧ (Instr.loadAt 36 (.pointer (some ⟨w.heap.size, 0, none⟩))).run Tryz.prog W = .ok (.agg fc) W) (by kernel_rfl) ?hS51 (fun hHeld => ?hR51)
  case hS51 => exact ⟨KX.cell 15 |>.trans HK15.out, HLK.out _ AM, HLD.out _ KY⟩
  refine take_op (i := 0) (some 11) (v := ?v52) rfl rfl (by kernel_rfl) (by kernel_rfl) (by kernel_rfl) (fun _ _ _ h => h) (Or.inl ⟨by rfl, ?hy52⟩) (by assumption) ?hR52
  case hy52 => (intro w hSw; (try dsimp only at hSw); go_simp; try rfl)
  simp only [Act.put, List.setIfInBounds_toArray, List.set_cons_zero, List.set_cons_succ]
  refine take_op (i := 1) (some 12) (v := ?v53) rfl rfl (by kernel_rfl) (by kernel_rfl) (by kernel_rfl) (fun _ _ _ h => h) (Or.inl ⟨by rfl, ?hy53⟩) (by assumption) ?hR53
  case hy53 => (intro w hSw; (try dsimp only at hSw); go_simp; try rfl)
  simp only [Act.put, List.setIfInBounds_toArray, List.set_cons_zero, List.set_cons_succ]
  refine take_op (i := 2) (some 13) (v := ?v54) rfl rfl (by kernel_rfl) (by kernel_rfl) (by kernel_rfl) (fun _ _ _ h => h) (Or.inl ⟨by rfl, ?hy54⟩) (by assumption) ?hR54
  case hy54 => (intro w hSw; (try dsimp only at hSw); go_simp; try rfl)
  simp only [Act.put, List.setIfInBounds_toArray, List.set_cons_zero, List.set_cons_succ]
  refine take_op (i := 3) (some 14) (v := ?v55) rfl rfl (by kernel_rfl) (by kernel_rfl) (by kernel_rfl) (fun _ _ _ h => h) (Or.inl ⟨by rfl, ?hy55⟩) (by assumption) ?hR55
  case hy55 => (intro w hSw; (try dsimp only at hSw); go_simp; try rfl)
  simp only [Act.put, List.setIfInBounds_toArray, List.set_cons_zero, List.set_cons_succ]
  refine take_op (i := 4) (some 15) (v := ?v56) rfl rfl (by kernel_rfl) (by kernel_rfl) (by kernel_rfl) (fun _ _ _ h => h) (Or.inl ⟨by rfl, ?hy56⟩) (by assumption) ?hR56
  case hy56 => (intro w hSw; refine Eq.trans (y_load rfl ?_ hSw.2.2) ?_; rfl; rfl)
  simp only [Act.put, List.setIfInBounds_toArray, List.set_cons_zero, List.set_cons_succ]
  refine take_op (i := 5) (some 16) (v := ?v57) rfl rfl (by kernel_rfl) (by kernel_rfl) (by kernel_rfl) (fun _ _ _ h => h) (Or.inl ⟨by rfl, ?hy57⟩) (by assumption) ?hR57
  case hy57 => (intro w hSw; (try dsimp only at hSw); go_simp; try rfl)
  simp only [Act.put, List.setIfInBounds_toArray, List.set_cons_zero, List.set_cons_succ]
  refine wpAnyH_ready (rs := [6]) (by kernel_rfl) (by simp) ?_
  refine AllReadyH.cons (o := _) rfl (fun K hK => ?hC58) AllReadyH.nil
  rw [if_pos (by rfl)]
  go_simp
  go_at_call 99
  refine (HVAL.out _).mono ?_
  rintro e wn ⟨rfl, hbn⟩
  replace HBc := below_up HBc hbn
  replace KX := KX.below hbn
  replace KY := KY.below hbn
  replace AM := AM.below hbn
  clear hbn
  go_wp2_with fail
  refine hK.out _ _ ?hS58 (fun hHeld => ?hR58)
  case hS58 => exact ⟨KX.cell 15 |>.trans HK15.out, HLK.out _ AM, HLD.out _ KY⟩
  try simp only [Act.put, List.setIfInBounds_toArray, List.set_cons_zero, List.set_cons_succ]
  refine wpAnyH_ready (rs := [7]) (by kernel_rfl) (by simp) ?_
  refine AllReadyH.cons (o := _) rfl (fun K hK => ?hC59) AllReadyH.nil
  rw [if_pos (by rfl)]
  go_simp
  go_at_call 122
  refine (HLIM.out _ (HE.out.below HBc) (LP.out.below HBc) (LQ.out.below HBc)).mono ?_
  rintro e wn ⟨rfl, hbn⟩
  replace HBc := below_up HBc hbn
  replace KX := KX.below hbn
  replace KY := KY.below hbn
  replace AM := AM.below hbn
  clear hbn
  go_wp2_with fail
  refine hK.out _ _ ?hS59 (fun hHeld => ?hR59)
  case hS59 => exact ⟨KX.cell 15 |>.trans HK15.out, HLK.out _ AM, HLD.out _ KY⟩
  try simp only [Act.put, List.setIfInBounds_toArray, List.set_cons_zero, List.set_cons_succ]
  refine take_op (i := 8) (some 6) (v := ?v60) rfl rfl (by kernel_rfl) (by kernel_rfl) (by kernel_rfl) (fun _ _ _ h => h) (Or.inl ⟨by rfl, ?hy60⟩) (by assumption) ?hR60
  case hy60 => (intro w hSw; (try dsimp only at hSw); go_simp; try rfl)
  simp only [Act.put, List.setIfInBounds_toArray, List.set_cons_zero, List.set_cons_succ]
  refine wpAnyH_done (by kernel_rfl) ?_ _
  go_wp2
  go_ret
  exact ⟨rfl, HBc⟩
end Go.Proofs.YtgopbldkhlmbnaaGreatDoor
