/- Arguments: rows of structs and of ints, opened; the tables that the call finds; the row's wrap. -/
import Derived.Test.YthlpfefckhdpiaaGreatDoorLots
import Derived.Test.YthlpfefckhdpiaaGreatDoorAgingP
import Derived.Test.YthlpfefckhdpiaaGreatDoorPost
import Derived.Test.YthlpfefckhdpiaaGreatDoorRows
import Derived.ProofKit
import Derived.OpenShut
import Derived.LaidMore
import Derived.Lay
import Derived.WideKeyArgs
import Derived.Deep.Slices
import Derived.HandedShaped
import Derived.Shelf.Vars
import Derived.Stop.Joined
namespace Go.Proofs.YthlpfefckhdpiaaGreatDoor
open Go.RowKit Num Dt Go.ChangeShapes Go.WideShapes Go.ChangeAt
section
variable {H : Type} {enc : TypeId × Value → H} {P : Program} {w : World} {base : Nat} {sp : Nat → Bool} {held : Bool}

theorem fld_cell {cs : List Value} {j : Nat} {v : Value} (h : (cs.drop j).take 1 = [v]) : cs[j]? = some v := by
  have : ((cs.drop j).take 1)[0]? = some v := by rw [h]; rfl
  simpa using this
theorem fld_str {t : TypeId} {cs : List Value} {j n : Nat} {y : DataW H × List MemPlace} (hu : P.underlying t = some .string) (hc : P.cellsOf t = 1) (h : DataW.trod enc P w base sp held n t ((cs.drop j).take (P.cellsOf t)) = some y) :
    ∃ l : List UInt8, cs[j]? = some (str l) ∧ l.length ≤ maxLen := by
  rw [hc] at h
  obtain ⟨s, e1, _, hs⟩ := DataW.trod_string hu h
  refine ⟨s.data.toList, ?_, by simpa using hs⟩
  rw [fld_cell e1]
theorem fld_int {t : TypeId} {k : IntKind} {cs : List Value} {j n : Nat} {y : DataW H × List MemPlace} (hu : P.underlying t = some (.int k)) (hc : P.cellsOf t = 1) (h : DataW.trod enc P w base sp held n t ((cs.drop j).take (P.cellsOf t)) = some y) :
    ∃ z : Int, cs[j]? = some (.int k z) ∧ (Lit.int k z).wf = true := by
  rw [hc] at h
  obtain ⟨z, e1, _, hs⟩ := DataW.trod_int hu h
  exact ⟨z, fld_cell e1, hs⟩
/-- a row of elements that take N cells each: what holds of each element's cells, with the first cell's address known -/
theorem open_row {t e : TypeId} {N : Nat} (hN : 0 < N) {v : Value} {d : DataW H} {ps : List MemPlace} (ht : P.underlying t = some (.slice e)) (hc : P.cellsOf e = N) (hv : Value.okWide P w .any base t v) (h : DataW.Trod enc P w 0 (fun _ => true) held t v d ps) :
    ∃ (a : Option Addr) (n c : Nat), v = .slice a n c ∧ n ≤ c ∧ n ≤ maxLen ∧ (n = 0 ∨ ∃ b off, a = some ⟨b, off, none⟩ ∧ b < w.heap.size ∧ ∀ i, i < n → ∃ (cs : List Value) (m : Nat) (y : DataW H × List MemPlace), cs.length = N ∧ (∀ j, j < N → w.cell? ⟨b, off + i * N + j, none⟩ = cs[j]?) ∧ DataW.trod enc P w 0 (fun _ => true) held m e cs = some y) := by
  obtain ⟨a, n, c, rfl⟩ := okWide_slice ht hv
  obtain ⟨fuel, hf⟩ := h
  rcases Deep.open_slice ht hf with ⟨hcs, _⟩ | ⟨a', len, cap, m, n', D, Pl, hcs, _, hl, hm, hmm, _, hx⟩
  · simp [Value.cells] at hcs
    obtain ⟨rfl, rfl, rfl⟩ := hcs
    exact ⟨none, 0, 0, rfl, Nat.le_refl _, Nat.zero_le _, .inl rfl⟩
  · simp [Value.cells] at hcs
    obtain ⟨rfl, rfl, rfl⟩ := hcs
    simp at hmm
    subst hmm
    rw [hc] at hx
    refine ⟨some a', n, m, rfl, hl, by omega, ?_⟩
    by_cases h0 : n = 0
    · exact .inl h0
    · have hcell : ∀ i, i < n → ∃ (cs : List Value) (m : Nat) (y : DataW H × List MemPlace), cs.length = N ∧ (∀ j, j < N → w.cell? ((a'.add (i * N)).add j) = cs[j]?) ∧ DataW.trod enc P w 0 (fun _ => true) held m e cs = some y := by
        intro i hi
        obtain ⟨cs', h1, h2⟩ := hx i (by omega)
        obtain ⟨_, hlen, hcc⟩ := World.cells?_some h1
        exact ⟨cs', _, _, hlen, hcc, h2⟩
      obtain ⟨b, off, spot⟩ := a'
      obtain ⟨cs, m', y, hlen, hcc, _⟩ := hcell 0 (by omega)
      have h00 := hcc 0 hN
      rw [List.getElem?_eq_getElem (by omega)] at h00
      have hsp : spot = none := by simpa [Addr.add] using World.cell?_spot h00
      subst hsp
      refine .inr ⟨b, off, rfl, World.block_lt_of_cell? w _ (by simpa [Addr.add] using h00), fun i hi => ?_⟩
      obtain ⟨cs, m, y, hlen, hcc, ht⟩ := hcell i hi
      exact ⟨cs, m, y, hlen, fun j hj => by rw [← hcc j hj, addr_add, addr_add], ht⟩
theorem list_of {α : Type} {n : Nat} {p : Nat → α → Prop} (h : ∀ i, i < n → ∃ x, p i x) : ∃ l : List α, l.length = n ∧ ∀ (i : Nat) (x : α), l[i]? = some x → p i x := by
  induction n with
  | zero => exact ⟨[], rfl, fun i x hx => by simp at hx⟩
  | succ n ih =>
    obtain ⟨l, hl, hp⟩ := ih (fun i hi => h i (by omega))
    obtain ⟨x, hx⟩ := h n (by omega)
    refine ⟨l ++ [x], by simp [hl], fun i y hy => ?_⟩
    by_cases hi : i < l.length
    · rw [List.getElem?_append_left hi] at hy; exact hp i y hy
    · rw [List.getElem?_append_right (by omega)] at hy
      have h0 : i - l.length = 0 := by
        rcases Nat.eq_zero_or_pos (i - l.length) with h | h
        · exact h
        · rw [List.getElem?_eq_none (by simp; omega)] at hy; cases hy
      rw [h0] at hy
      simp at hy
      subst hy
      obtain rfl : i = n := by omega
      exact hx
end
section
variable {H : Type} {enc : TypeId × Value → H} {w : World} {base : Nat} {held : Bool}
set_option maxRecDepth 100000 in
theorem open_lots {v : Value} {d : DataW H} {ps : List MemPlace} (hv : Value.okWide Tryz.prog w .any base 22 v) (h : DataW.Trod enc Tryz.prog w 0 (fun _ => true) held 22 v d ps) :
    ∃ (a : Option Addr) (c : Nat) (ls : List LotP), v = .slice a ls.length c ∧ ls.length ≤ c ∧ ls.length ≤ maxLen ∧ Lots w a ls ∧ ∀ x, x ∈ ls → x.fits := by
  obtain ⟨a, n, c, rfl, hnc, hm, hx⟩ := open_row (N := 7) (by decide) Tryz.underlying22 (by kernel_rfl) hv h
  rcases hx with rfl | ⟨b, off, rfl, hb, hx⟩
  · exact ⟨a, c, [], rfl, Nat.zero_le _, Nat.zero_le _, .inl rfl, fun x hx => by simp at hx⟩
  · obtain ⟨ls, hl, hp⟩ := list_of (α := LotP) (p := fun i x => (w.cell? ⟨b, off + i * 7, none⟩ = some (str x.id) ∧ w.cell? ⟨b, off + i * 7 + 1, none⟩ = some (str x.ins) ∧ w.cell? ⟨b, off + i * 7 + 2, none⟩ = some (.int .i64 x.acq) ∧ w.cell? ⟨b, off + i * 7 + 3, none⟩ = some (.int .i64 x.opn) ∧
    w.cell? ⟨b, off + i * 7 + 4, none⟩ = some (str x.q) ∧ w.cell? ⟨b, off + i * 7 + 5, none⟩ = some (str x.c) ∧ w.cell? ⟨b, off + i * 7 + 6, none⟩ = some (str x.u)) ∧ x.fits) (fun i hi => by
      obtain ⟨cs, m, y, hlen, hcc, ht⟩ := hx i hi
      obtain ⟨xs, k, _, _, _, hxl, hf⟩ := DataW.trod_struct Tryz.underlying35 ht
      have hg : ∀ i, i < 7 → ∃ y, xs[i]? = some y := fun i hi => ⟨_, List.getElem?_eq_getElem (by rw [hxl]; exact hi)⟩
      obtain ⟨y0, g0⟩ := hg 0 (by decide)
      obtain ⟨y1, g1⟩ := hg 1 (by decide)
      obtain ⟨y2, g2⟩ := hg 2 (by decide)
      obtain ⟨y3, g3⟩ := hg 3 (by decide)
      obtain ⟨y4, g4⟩ := hg 4 (by decide)
      obtain ⟨y5, g5⟩ := hg 5 (by decide)
      obtain ⟨y6, g6⟩ := hg 6 (by decide)
      obtain ⟨id, e0, l0⟩ := fld_str Tryz.underlying9 (by kernel_rfl) ((hf 0 _ rfl).trans g0)
      obtain ⟨ins, e1, l1⟩ := fld_str Tryz.underlying9 (by kernel_rfl) ((hf 1 _ rfl).trans g1)
      obtain ⟨acq, e2, _⟩ := fld_int Tryz.underlying23 (by kernel_rfl) ((hf 2 _ rfl).trans g2)
      obtain ⟨opn, e3, _⟩ := fld_int Tryz.underlying23 (by kernel_rfl) ((hf 3 _ rfl).trans g3)
      obtain ⟨q, e4, l4⟩ := fld_str Tryz.underlying33 (by kernel_rfl) ((hf 4 _ rfl).trans g4)
      obtain ⟨c, e5, l5⟩ := fld_str Tryz.underlying33 (by kernel_rfl) ((hf 5 _ rfl).trans g5)
      obtain ⟨u, e6, l6⟩ := fld_str Tryz.underlying33 (by kernel_rfl) ((hf 6 _ rfl).trans g6)
      unfold maxLen at l0 l1 l4 l5 l6
      exact ⟨⟨id, ins, acq, opn, q, c, u⟩, ⟨(hcc 0 (by decide)).trans e0, (hcc 1 (by decide)).trans e1, (hcc 2 (by decide)).trans e2, (hcc 3 (by decide)).trans e3, (hcc 4 (by decide)).trans e4, (hcc 5 (by decide)).trans e5, (hcc 6 (by decide)).trans e6⟩, by unfold LotP.fits; simp only; omega⟩)
    subst hl
    exact ⟨_, c, ls, rfl, hnc, hm, .inr ⟨b, off, rfl, hb, fun k x hk => (hp k x hk).1⟩, fun x hx => by obtain ⟨k, hk⟩ := List.getElem?_of_mem hx; exact (hp k x hk).2⟩
set_option maxRecDepth 100000 in
theorem open_ints64 {v : Value} {d : DataW H} {ps : List MemPlace} (hv : Value.okWide Tryz.prog w .any base 31 v) (h : DataW.Trod enc Tryz.prog w 0 (fun _ => true) held 31 v d ps) :
    ∃ (a : Option Addr) (c : Nat) (zs : List Int), v = .slice a zs.length c ∧ zs.length ≤ c ∧ zs.length ≤ maxLen ∧ Ints w a zs := by
  obtain ⟨a, n, c, rfl, hnc, hm, hx⟩ := open_row (N := 1) (by decide) Tryz.underlying31 (by kernel_rfl) hv h
  rcases hx with rfl | ⟨b, off, rfl, hb, hx⟩
  · exact ⟨a, c, [], rfl, Nat.zero_le _, Nat.zero_le _, .inl rfl⟩
  · obtain ⟨zs, hl, hp⟩ := list_of (α := Int) (p := fun i z => w.cell? ⟨b, off + i, none⟩ = some (.int .i64 z)) (fun i hi => by
      obtain ⟨cs, m, y, hlen, hcc, ht⟩ := hx i hi
      obtain ⟨z, e, _, _⟩ := DataW.trod_int Tryz.underlying3 ht
      refine ⟨z, ?_⟩
      have := hcc 0 (by decide)
      rw [e] at this
      simpa using this)
    subst hl
    exact ⟨_, c, zs, rfl, hnc, hm, .inr ⟨b, off, rfl, hb, hp⟩⟩
end
theorem laid_mem {P : Program} {w : World} : ∀ {l : List (String × DataW Unit)} {ps : List MemPlace}, DataW.LaidVars P w l ps → ∀ n d, (n, d) ∈ l →
    ∃ g t cs fuel p, P.globalNamed n = some g ∧ (P.globals[g]?).map (·.type) = some t ∧ w.var? P n = some cs ∧ DataW.trod (fun _ => ()) P w 0 (fun _ => true) false fuel t cs.toList = some (d, p)
  | [], _, _, n, d, hm => by simp at hm
  | (n', d') :: r, ps, h, n, d, hm => by
    obtain ⟨g, t, cs, fuel, p, q, hg, ht, hv, hd, hr, _⟩ := h
    rcases List.mem_cons.1 hm with e | hm
    · injection e with e1 e2
      subst e1 e2
      exact ⟨g, t, cs, fuel, p, hg, ht, hv, hd⟩
    · exact laid_mem hr n d hm
theorem gPow : Tryz.prog.globalNamed "internal/strconv.uint64pow10" = some 2 := by kernel_rfl
theorem gSyn : Tryz.prog.globalNamed "strconv.ErrSyntax" = some 0 := by kernel_rfl
theorem gRng : Tryz.prog.globalNamed "strconv.ErrRange" = some 1 := by kernel_rfl
theorem tPow : (Tryz.prog.globals[2]?).map (·.type) = some 199 := by kernel_rfl
theorem tSyn : (Tryz.prog.globals[0]?).map (·.type) = some 113 := by kernel_rfl
theorem tRng : (Tryz.prog.globals[1]?).map (·.type) = some 113 := by kernel_rfl
set_option maxRecDepth 100000 in
/-- the tables that the row lists, and the world's shape -/
theorem env_of {W : World} {laid : List (String × DataW Unit)} {n1 n2 : String} {d1 d2 : DataW Unit} (hs : W.ShapedOpen Tryz.prog)
    (h1 : ("internal/strconv.uint64pow10", Lib.tabData .u64 Lib.pow10Tab) ∈ laid) (h2 : ("strconv.ErrSyntax", .iface n1 d1) ∈ laid) (h3 : ("strconv.ErrRange", .iface n2 d2) ∈ laid)
    (h : laidMet Tryz.prog laid W) : Env W := by
  obtain ⟨ps, hl, _, _⟩ := h
  refine ⟨?_, ?_, ?_, ?_⟩
  · obtain ⟨g, t, cs, fuel, p, hg, ht, hv, hd⟩ := laid_mem hl _ _ h1
    obtain rfl := Option.some.inj (gPow.symm.trans hg)
    obtain rfl := Option.some.inj (tPow.symm.trans ht)
    unfold Lib.TabIs
    rw [hv, ← Lib.cells_of_tab Tryz.underlying199 Tryz.underlying111 (by kernel_rfl) (by kernel_rfl) hd]
  · obtain ⟨g, t, cs, fuel, p, hg, ht, hv, hd⟩ := laid_mem hl _ _ h2
    obtain rfl := Option.some.inj (gSyn.symm.trans hg)
    obtain rfl := Option.some.inj (tSyn.symm.trans ht)
    obtain ⟨_, u, v, e, _⟩ := iface_of_trod Tryz.underlying113 hd
    refine ⟨u, v, ?_⟩
    rw [World.var?_cell hg hv 0, Array.eq_one_of_toList e]
    rfl
  · obtain ⟨g, t, cs, fuel, p, hg, ht, hv, hd⟩ := laid_mem hl _ _ h3
    obtain rfl := Option.some.inj (gRng.symm.trans hg)
    obtain rfl := Option.some.inj (tRng.symm.trans ht)
    obtain ⟨_, u, v, e, _⟩ := iface_of_trod Tryz.underlying113 hd
    refine ⟨u, v, ?_⟩
    rw [World.var?_cell hg hv 0, Array.eq_one_of_toList e]
    rfl
  · exact cell_of_shapedOpen_int (t := 3) (zero := #[.int .i64 0]) hs (of_decide_eq_true (by kernel_rfl)) (by kernel_rfl) rfl (by kernel_rfl) (by kernel_rfl) Tryz.underlying3
/-- the row's wrap, with the listed variables and the world's shape -/
theorem returns_laid {H : Type} {enc : TypeId × Value → H} {C : Checked} {os : Os} {f : FuncId} {fn : Func} {s : ChangeSpec} {conds : List PathCond} {apart fresh handsOn again : Bool} {X : World → Array Value → Prop}
    (hX : ∀ (w w' : World) (args : Array Value), w.heap = w'.heap → X w args → X w' args)
    (own : ownKnob C.prog.godebug = none) (started : os.Started) (noInit : C.prog.inits.idxOf? f = none) (hfn : C.prog.funcs[f]? = some fn)
    (witness : ∃ (w : World) (tape : Tape) (i : Input), w.os = os ∧ (w.forCall tape i).Shaped C.prog ∧ i.vars = [] ∧ Input.okWide C.prog (w.forCall tape i) .any w.heap.size f i ∧
      ((s.pre enc C.prog fn conds apart (w.forCall tape i).memory i.args ∧ X (w.forCall tape i).memory i.args) ∧ sizedMet enc C.prog fn (OpenSpec.ofChange s) apart (w.forCall tape i).memory i.args) ∧ Assume.holds {} C.prog (lone (Frame.enter C.prog f i.args .normal) [] (w.forCall tape i)))
    (contract : ∀ (W : World) (base : Nat) (args : Array Value) (ds gs : List (DataW H)) (before : List MemPlace),
      (∀ (j : Nat) t v, fn.params[j]? = some t → args[j]? = some v → Value.okWide C.prog W .any base t v) →
      DataW.Whole enc C.prog fn.params.toList s.vars apart W args.toList ds gs before → W.ShapedOpen C.prog → X W args →
      Calls C.prog f args W fun e W' => ∃ v, e = .returned v ∧ s.post enc C.prog fn apart fresh handsOn again W args v W') :
    ReturnsInHanded {} C os f .any (fun w args => (s.pre enc C.prog fn conds apart w args ∧ X w args) ∧ sizedMet enc C.prog fn (OpenSpec.ofChange s) apart w args) (s.post enc C.prog fn apart fresh handsOn again) := by
  refine returnsInHanded_of_calls own started noInit witness ?_
  intro w tape i _ hsh _ hok hpre hholds
  obtain ⟨_, _, _, fn', hfn', _, _, _, _, hval⟩ := hok
  have e : fn' = fn := Option.some.inj (hfn'.symm.trans hfn)
  subst e
  obtain ⟨⟨⟨ds, gs, before, hw, hc⟩, hx⟩, hz⟩ := hpre
  have hw' := DataW.Whole.of_heap (w' := w.forCall tape i) (by rfl) hw
  refine (contract (w.forCall tape i) w.heap.size i.args ds gs before hval hw' hsh (hX _ _ _ (by rfl) hx)).mono fun e W' ⟨v, he, hp⟩ => ?_
  subst he
  exact ChangeSpec.post_blind hp
end Go.Proofs.YthlpfefckhdpiaaGreatDoor
