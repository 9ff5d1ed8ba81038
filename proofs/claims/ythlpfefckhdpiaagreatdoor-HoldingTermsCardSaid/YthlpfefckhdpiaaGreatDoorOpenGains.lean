/- Gains among the arguments, opened. -/
import Derived.Test.YthlpfefckhdpiaaGreatDoorOpen
import Derived.Test.YthlpfefckhdpiaaGreatDoorFine
namespace Go.Proofs.YthlpfefckhdpiaaGreatDoor
open Go.RowKit Num Dt Go.ChangeShapes Go.WideShapes Go.ChangeAt
section
variable {H : Type} {enc : TypeId × Value → H} {w : World} {base : Nat} {held : Bool}
set_option maxRecDepth 100000 in
theorem open_gains {v : Value} {d : DataW H} {ps : List MemPlace} (hv : Value.okWide Tryz.prog w .any base 44 v) (h : DataW.Trod enc Tryz.prog w 0 (fun _ => true) held 44 v d ps) :
    ∃ (a : Option Addr) (c : Nat) (gs : List GainP), v = .slice a gs.length c ∧ gs.length ≤ c ∧ gs.length ≤ maxLen ∧ Gains w a gs ∧ ∀ x, x ∈ gs → x.fits := by
  obtain ⟨a, n, c, rfl, hnc, hm, hx⟩ := open_row (N := 10) (by decide) Tryz.underlying44 (by kernel_rfl) hv h
  rcases hx with rfl | ⟨b, off, rfl, hb, hx⟩
  · exact ⟨a, c, [], rfl, Nat.zero_le _, Nat.zero_le _, .inl rfl, fun x hx => by simp at hx⟩
  · obtain ⟨ls, hl, hp⟩ := list_of (α := GainP) (p := fun i x => (w.cell? ⟨b, off + i * 10, none⟩ = some (str x.cause) ∧ w.cell? ⟨b, off + i * 10 + 1, none⟩ = some (str x.lot) ∧ w.cell? ⟨b, off + i * 10 + 2, none⟩ = some (str x.ins) ∧ w.cell? ⟨b, off + i * 10 + 3, none⟩ = some (.int .i64 x.acq) ∧ w.cell? ⟨b, off + i * 10 + 4, none⟩ = some (.int .i64 x.cls) ∧ w.cell? ⟨b, off + i * 10 + 5, none⟩ = some (str x.q) ∧ w.cell? ⟨b, off + i * 10 + 6, none⟩ = some (str x.p) ∧ w.cell? ⟨b, off + i * 10 + 7, none⟩ = some (str x.c) ∧ w.cell? ⟨b, off + i * 10 + 8, none⟩ = some (str x.df) ∧ w.cell? ⟨b, off + i * 10 + 9, none⟩ = some (str x.rp)) ∧ x.fits) (fun i hi => by
      obtain ⟨cs, m, y, hlen, hcc, ht⟩ := hx i hi
      obtain ⟨xs, k, _, _, _, hxl, hf⟩ := DataW.trod_struct Tryz.underlying51 ht
      have hg : ∀ i, i < 10 → ∃ y, xs[i]? = some y := fun i hi => ⟨_, List.getElem?_eq_getElem (by rw [hxl]; exact hi)⟩
      obtain ⟨y0, g0⟩ := hg 0 (by decide)
      obtain ⟨y1, g1⟩ := hg 1 (by decide)
      obtain ⟨y2, g2⟩ := hg 2 (by decide)
      obtain ⟨y3, g3⟩ := hg 3 (by decide)
      obtain ⟨y4, g4⟩ := hg 4 (by decide)
      obtain ⟨y5, g5⟩ := hg 5 (by decide)
      obtain ⟨y6, g6⟩ := hg 6 (by decide)
      obtain ⟨y7, g7⟩ := hg 7 (by decide)
      obtain ⟨y8, g8⟩ := hg 8 (by decide)
      obtain ⟨y9, g9⟩ := hg 9 (by decide)
      obtain ⟨cause, e0, l0⟩ := fld_str Tryz.underlying9 (by kernel_rfl) ((hf 0 _ rfl).trans g0)
      obtain ⟨lot, e1, l1⟩ := fld_str Tryz.underlying9 (by kernel_rfl) ((hf 1 _ rfl).trans g1)
      obtain ⟨ins, e2, l2⟩ := fld_str Tryz.underlying9 (by kernel_rfl) ((hf 2 _ rfl).trans g2)
      obtain ⟨acq, e3, _⟩ := fld_int Tryz.underlying23 (by kernel_rfl) ((hf 3 _ rfl).trans g3)
      obtain ⟨cls, e4, _⟩ := fld_int Tryz.underlying23 (by kernel_rfl) ((hf 4 _ rfl).trans g4)
      obtain ⟨q, e5, l5⟩ := fld_str Tryz.underlying33 (by kernel_rfl) ((hf 5 _ rfl).trans g5)
      obtain ⟨p, e6, l6⟩ := fld_str Tryz.underlying33 (by kernel_rfl) ((hf 6 _ rfl).trans g6)
      obtain ⟨c, e7, l7⟩ := fld_str Tryz.underlying33 (by kernel_rfl) ((hf 7 _ rfl).trans g7)
      obtain ⟨df, e8, l8⟩ := fld_str Tryz.underlying33 (by kernel_rfl) ((hf 8 _ rfl).trans g8)
      obtain ⟨rp, e9, l9⟩ := fld_str Tryz.underlying33 (by kernel_rfl) ((hf 9 _ rfl).trans g9)
      unfold maxLen at l0 l1 l2 l5 l6 l7 l8 l9
      exact ⟨⟨cause, lot, ins, acq, cls, q, p, c, df, rp⟩, ⟨(hcc 0 (by decide)).trans e0, (hcc 1 (by decide)).trans e1, (hcc 2 (by decide)).trans e2, (hcc 3 (by decide)).trans e3, (hcc 4 (by decide)).trans e4, (hcc 5 (by decide)).trans e5, (hcc 6 (by decide)).trans e6, (hcc 7 (by decide)).trans e7, (hcc 8 (by decide)).trans e8, (hcc 9 (by decide)).trans e9⟩, by unfold GainP.fits; simp only; omega⟩)
    subst hl
    exact ⟨_, c, ls, rfl, hnc, hm, .inr ⟨b, off, rfl, hb, fun k x hk => (hp k x hk).1⟩, fun x hx => by obtain ⟨k, hk⟩ := List.getElem?_of_mem hx; exact (hp k x hk).2⟩
end
end Go.Proofs.YthlpfefckhdpiaaGreatDoor
