/- holding.Terms: what it returns. -/
import Derived.Test.YthlpfefckhdpiaaGreatDoorSums
namespace Go.Proofs.YthlpfefckhdpiaaGreatDoor
open Go.RowKit Num Dt
attribute [local go_sem] str_append str_extract str_size setCell_drewN

noncomputable def termCells (gs : List GainP) (m : Int) : List Value := if splitErr gs m = 0 then [(.string ⟨#[112, 114, 111, 99, 101, 101, 100, 115]⟩), str (canon (sumOf GainP.p gs)), (.string ⟨#[99, 111, 115, 116]⟩), str (canon (sumOf GainP.c gs)), (.string ⟨#[108, 111, 110, 103, 112, 114, 111, 99, 101, 101, 100, 115]⟩), str (canon (sumOf GainP.p (splitRes gs m).1)), (.string ⟨#[108, 111, 110, 103, 99, 111, 115, 116]⟩), str (canon (sumOf GainP.c (splitRes gs m).1))] else []
def termLen (gs : List GainP) (m : Int) : Nat := if splitErr gs m = 0 then 4 else 0
set_option maxHeartbeats 2000000 in
set_option maxRecDepth 100000 in
theorem terms_any (gs : List GainP) (m : Int) (a : Option Addr) (c : Nat) (w : World) (hE : Env w) (hn : gs.length ≤ 1000) (hw : Gains w a gs) (hs : ∀ x, x ∈ gs → x.small) :
    Calls Tryz.prog 25 #[.slice a gs.length c, .int .i64 m] w fun e w' => (∃ a1 c1, e = .returned (.tuple #[.slice a1 (termLen gs m) c1, .int .i64 (splitErr gs m)]) ∧ Row w' a1 (termCells gs m)) ∧ Below w.heap.size w w' := by
  have H1 := Lib.hid (split_any gs m a c w hE hn hw hs)
  have hm := splitRes_mem gs m
  have HS1 : ∀ (l : List GainP), (∀ x, x ∈ l → x ∈ gs) → l.length ≤ gs.length → Hid (∀ (a : Option Addr) (c : Nat) W, Env W → Gains W a l → Calls Tryz.prog 60 #[.slice a l.length c, .func (.func 64) #[] #[]] W fun e w' => e = .returned (.string ⟨(canon (sumOf GainP.p l)).toArray⟩) ∧ Below W.heap.size W w') := fun l hl hle a c W hW hg =>
    sum_any 64 GainP.p (fun args w => MuLone.run_callFunc_enter Tryz.func64 (by kernel_rfl) rfl args w) l a c W hW (fun x W _ _ => terms1_any x W) (fun x hx => by have := (hs x (hl x hx)).2.2.2.2.1; omega) hg (by omega)
  have HS2 : ∀ (l : List GainP), (∀ x, x ∈ l → x ∈ gs) → l.length ≤ gs.length → Hid (∀ (a : Option Addr) (c : Nat) W, Env W → Gains W a l → Calls Tryz.prog 60 #[.slice a l.length c, .func (.func 65) #[] #[]] W fun e w' => e = .returned (.string ⟨(canon (sumOf GainP.c l)).toArray⟩) ∧ Below W.heap.size W w') := fun l hl hle a c W hW hg =>
    sum_any 65 GainP.c (fun args w => MuLone.run_callFunc_enter Tryz.func65 (by kernel_rfl) rfl args w) l a c W hW (fun x W _ _ => terms2_any x W) (fun x hx => by have := (hs x (hl x hx)).2.2.2.2.2.1; omega) hg (by omega)
  have HA := HS1 gs (fun _ h => h) (Nat.le_refl _)
  have HBc := HS2 gs (fun _ h => h) (Nat.le_refl _)
  have HC := HS1 _ hm.1 hm.2.2.1
  have HD := HS2 _ hm.1 hm.2.2.1
  have HE := Lib.hid hE
  have HW := Lib.hid hw
  have hq : Hid (termCells gs m = if splitErr gs m = 0 then [(.string ⟨#[112, 114, 111, 99, 101, 101, 100, 115]⟩), str (canon (sumOf GainP.p gs)), (.string ⟨#[99, 111, 115, 116]⟩), str (canon (sumOf GainP.c gs)), (.string ⟨#[108, 111, 110, 103, 112, 114, 111, 99, 101, 101, 100, 115]⟩), str (canon (sumOf GainP.p (splitRes gs m).1)), (.string ⟨#[108, 111, 110, 103, 99, 111, 115, 116]⟩), str (canon (sumOf GainP.c (splitRes gs m).1))] else []) := rfl
  have hq2 : Hid (termLen gs m = if splitErr gs m = 0 then 4 else 0) := rfl
  clear HS1 HS2 hm hE hw hs
  generalize termCells gs m = tc at *
  generalize termLen gs m = tl at *
  generalize splitRes gs m = sp at *
  generalize splitErr gs m = z at *
  obtain ⟨l1, l2⟩ := sp
  simp only at *
  generalize canon (sumOf GainP.p gs) = sa at *
  generalize canon (sumOf GainP.c gs) = sb at *
  generalize canon (sumOf GainP.p l1) = sc at *
  generalize canon (sumOf GainP.c l1) = sd at *
  go_enter Tryz.func25, Tryz.ntmps25
  go_wp2_with fail
  refine H1.out.mono ?_
  rintro e w1 ⟨⟨a1, c1, a2, c2, rfl, G1, G2⟩, hb⟩
  have G1 := Lib.hid G1
  have HB := Lib.hid hb
  clear hb H1 G2
  by_cases g : z = 0
  · subst g
    have hq : Hid (tc = [(.string ⟨#[112, 114, 111, 99, 101, 101, 100, 115]⟩), (.string ⟨sa.toArray⟩), (.string ⟨#[99, 111, 115, 116]⟩), (.string ⟨sb.toArray⟩), (.string ⟨#[108, 111, 110, 103, 112, 114, 111, 99, 101, 101, 100, 115]⟩), (.string ⟨sc.toArray⟩), (.string ⟨#[108, 111, 110, 103, 99, 111, 115, 116]⟩), (.string ⟨sd.toArray⟩)]) := by show _ = _; rw [hq.out]; rfl
    have hq2 : Hid (tl = 4) := by show _ = _; rw [hq2.out]; rfl
    go_wp2_with fail
    refine (HA.out _ _ _ (HE.out.below HB.out) (HW.out.below HB.out)).mono ?_
    rintro e w2 ⟨rfl, hb⟩
    have G1 := Lib.hid (G1.out.below hb)
    have HB := Lib.hid (below_up HB.out hb)
    clear hb
    go_wp2_with fail
    refine (HBc.out _ _ _ (HE.out.below HB.out) (HW.out.below HB.out)).mono ?_
    rintro e w2 ⟨rfl, hb⟩
    have G1 := Lib.hid (G1.out.below hb)
    have HB := Lib.hid (below_up HB.out hb)
    clear hb
    go_wp2_with fail
    refine (HC.out _ _ _ (HE.out.below HB.out) G1.out).mono ?_
    rintro e w2 ⟨rfl, hb⟩
    have G1 := Lib.hid (G1.out.below hb)
    have HB := Lib.hid (below_up HB.out hb)
    clear hb
    go_wp2_with fail
    refine (HD.out _ _ _ (HE.out.below HB.out) G1.out).mono ?_
    rintro e w2 ⟨rfl, hb⟩
    have G1 := Lib.hid (G1.out.below hb)
    have HB := Lib.hid (below_up HB.out hb)
    clear hb
    go_wp2
    go_ret2
    rw [hq.out, hq2.out]
    exact ⟨⟨_, _, rfl, row_of_heap (q := []) (by simpa using heap_alloc_new w2 _)⟩, below_up HB.out (below_alloc w2 _)⟩
  · have g' : (z != 0) = true := by simpa using g
    have hq : Hid (tc = []) := by show _ = _; rw [hq.out, if_neg g]
    have hq2 : Hid (tl = 0) := by show _ = _; rw [hq2.out, if_neg g]
    go_wp2
    go_ret2
    rw [hq.out, hq2.out]
    exact ⟨⟨none, 0, rfl, .inl rfl⟩, HB.out⟩
end Go.Proofs.YthlpfefckhdpiaaGreatDoor
