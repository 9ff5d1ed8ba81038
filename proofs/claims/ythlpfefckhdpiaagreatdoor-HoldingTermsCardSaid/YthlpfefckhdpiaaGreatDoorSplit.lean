/- holding.divide over gains, holding.Split: what they return. -/
import Derived.Test.YthlpfefckhdpiaaGreatDoorGains
import Derived.Test.YthlpfefckhdpiaaGreatDoorAging
import Derived.OwnWalk
namespace Go.Proofs.YthlpfefckhdpiaaGreatDoor
open Go.RowKit Num Dt
attribute [local go_sem] str_append str_extract str_size setCell_drewN

def flat (gs : List GainP) : List Value := gs.flatMap (fun x => x.cs.toList)
theorem flat_append (a b : List GainP) : flat (a ++ b) = flat a ++ flat b := by simp [flat]
theorem flat_one (x : GainP) : flat [x] = x.cs.toList := by simp [flat]
theorem flat_cons (x : GainP) (r : List GainP) : flat (x :: r) = x.cs.toList ++ flat r := by simp [flat]
theorem flat_length : ∀ gs : List GainP, (flat gs).length = gs.length * 10
  | [] => rfl
  | x :: r => by
    rw [flat_cons, List.length_append, flat_length r, show x.cs.toList.length = 10 from rfl, List.length_cons]
    omega
theorem flat_get : ∀ (gs : List GainP) (k : Nat) (x : GainP) (j : Nat), gs[k]? = some x → j < 10 → (flat gs)[k * 10 + j]? = x.cs[j]?
  | [], k, x, j, h, _ => by simp at h
  | y :: r, 0, x, j, h, hj => by
    simp at h
    subst h
    simp only [flat, List.flatMap_cons]
    rw [List.getElem?_append_left (by simp [GainP.cs]; omega)]
    simp
  | y :: r, k + 1, x, j, h, hj => by
    have ih := flat_get r k x j (by simpa using h) hj
    simp only [flat, List.flatMap_cons] at *
    have hl : y.cs.toList.length = 10 := rfl
    rw [List.getElem?_append_right (by omega), hl, show (k + 1) * 10 + j - 10 = k * 10 + j by omega]
    exact ih
theorem gains_of_row {w : World} {a : Option Addr} {gs : List GainP} (h : Row w a (flat gs)) : Gains w a gs := by
  by_cases h0 : gs = []
  · exact .inl h0
  · obtain ⟨b, off, ha, hlt, hc⟩ := h.addr (by
      intro e
      have h1 := flat_length gs
      rw [e] at h1
      have h2 : gs.length ≠ 0 := by simpa using h0
      have h3 : gs.length * 10 = 0 := h1.symm
      omega)
    refine .inr ⟨b, off, ha, hlt, fun k x hx => ?_⟩
    have key : ∀ j v, j < 10 → x.cs[j]? = some v → w.cell? ⟨b, off + k * 10 + j, none⟩ = some v := fun j v hj hv => by
      rw [Nat.add_assoc]; exact hc _ v (by rw [flat_get gs k x j hx hj]; exact hv)
    exact ⟨key 0 _ (by decide) rfl, key 1 _ (by decide) rfl, key 2 _ (by decide) rfl, key 3 _ (by decide) rfl, key 4 _ (by decide) rfl, key 5 _ (by decide) rfl, key 6 _ (by decide) rfl, key 7 _ (by decide) rfl, key 8 _ (by decide) rfl, key 9 _ (by decide) rfl⟩
theorem gain_one (x : GainP) : ∀ u, u ∈ x.cs.toList → u.oneCell' = true := by
  intro u hu
  simp only [GainP.cs, List.mem_cons, List.mem_nil_iff, or_false] at hu
  rcases hu with rfl | rfl | rfl | rfl | rfl | rfl | rfl | rfl | rfl | rfl <;> rfl
def zGain : Value := .agg #[.string ⟨#[]⟩, .string ⟨#[]⟩, .string ⟨#[]⟩, .int .i64 0, .int .i64 0, .string ⟨#[]⟩, .string ⟨#[]⟩, .string ⟨#[]⟩, .string ⟨#[]⟩, .string ⟨#[]⟩]
theorem infoGain : (Tryz.prog.info? 51).map (fun i => (i.zero, i.size, i.bytes)) = some (some zGain, 10, 144) := by kernel_rfl
theorem gfilter_take {p : GainP → Bool} {gs : List GainP} {k : Nat} {x : GainP} (hx : gs[k]? = some x) : (gs.take (k + 1)).filter p = (gs.take k).filter p ++ (if p x = true then [x] else []) := by
  rw [List.take_add_one, hx, List.filter_append]
  cases h : p x <;> simp [h]
noncomputable def GainP.long (m : Int) (x : GainP) : Bool := isLong x.acq x.cls m
set_option maxHeartbeats 1000000 in
theorem split2_any (x : GainP) (m : Int) (B2 : Nat) (T2 : TypeId) (w : World) (hB2 : Box w B2 #[.int .i64 m] T2) :
    Calls Tryz.prog 58 #[x.v, .pointer (some ⟨B2, 0, none⟩)] w fun e w' => e = .returned (.bool (x.long m)) ∧ Below w.heap.size w w' := by
  have k0 := hB2.cell 0
  have HB := hB2.1
  have hne : B2 ≠ w.heap.size := by omega
  have hr : Hid (x.long m = isLong x.acq x.cls m) := rfl
  have H := Lib.hid (fun W => long_any x.acq x.cls m W)
  have KB := Lib.hid (below_alloc w (.cells #[.string ⟨x.cause.toArray⟩, .string ⟨x.lot.toArray⟩, .string ⟨x.ins.toArray⟩, .int .i64 x.acq, .int .i64 x.cls, .string ⟨x.q.toArray⟩, .string ⟨x.p.toArray⟩, .string ⟨x.c.toArray⟩, .string ⟨x.df.toArray⟩, .string ⟨x.rp.toArray⟩] 51))
  clear hB2
  generalize x.long m = r at *
  simp only [GainP.v, GainP.cs] at *
  go_enter Tryz.func58, Tryz.ntmps58
  go_wp2_with fail
  refine (H.out _).mono ?_
  rintro e w1 ⟨rfl, hb⟩
  go_wp2
  go_ret
  exact ⟨ret_bool hr.out.symm, below_up KB.out hb⟩
set_option maxHeartbeats 4000000 in
set_option maxRecDepth 100000 in
theorem divide_gain (B0 : Nat) (p : GainP → Bool) (I : World → Prop) (hI : ∀ W W', I W → Below B0 W W' → I W') (f1 : Value) (hp : ∀ z W, I W → Calls Tryz.prog 58 #[z.v, f1] W fun e w' => e = .returned (.bool (p z)) ∧ Below W.heap.size W w')
    (gs : List GainP) (a : Option Addr) (cap : Nat) (w : World) (hw : Gains w a gs) (h0 : I w) (hB0 : B0 ≤ w.heap.size) (hl : gs.length ≤ 1000) :
    Calls Tryz.prog 57 #[.slice a gs.length cap, .func (.func 58) #[] #[f1]] w fun e w' => (∃ a1 c1 a2 c2, e = .returned (.tuple #[.slice a1 (gs.filter p).length c1, .slice a2 (gs.filter fun x => !p x).length c2]) ∧ Gains w' a1 (gs.filter p) ∧ Gains w' a2 (gs.filter fun x => !p x)) ∧ Below w.heap.size w w' := by
  obtain ⟨i0, hi, hz0, hz1, hz2⟩ := info_parts infoGain
  have HI := Lib.hid (fun W W' h (hs : B0 ≤ W.heap.size) hb => hI W W' h (Below.mono hb hs))
  have HG := Lib.hid (fun W W' (h : I W) (hb : Below W.heap.size W W') W'' row (hg : W'.grownBy W'' row) (hs : B0 ≤ W.heap.size) (hr : ∀ k, row = some k → w.heap.size ≤ k) => hI W W'' h ((Below.mono hb hs).grown hg (Nat.le_trans hs hb.size) (fun k hk => Nat.le_trans hB0 (hr k hk))))
  have HP := Lib.hid hp
  have HW := Lib.hid hw
  have H0 := Lib.hid h0
  clear hI hp hw h0
  go_enter Tryz.func57, Tryz.ntmps57
  go_wp2
  go_loopw [6, 7, 12] (fun x y i W => Hid (Below w.heap.size w W) ∧ Hid (I W) ∧ ∃ k : Nat, k ≤ gs.length ∧ i = .int .i64 (k : Int) ∧ Hid (Two W w.heap.size 51 10 x y ((gs.take k).filter p).length ((gs.take k).filter fun x => !p x).length (flat ((gs.take k).filter p)) (flat ((gs.take k).filter fun x => !p x)))) (fun _ _ i _ => gs.length - (intOf i).toNat)
  case atStart => exact ⟨Below.refl _ _, H0, 0, Nat.zero_le _, rfl, ⟨rfl, .inl ⟨rfl, rfl⟩⟩, ⟨rfl, .inl ⟨rfl, rfl⟩⟩, .inl rfl⟩
  case round =>
    obtain ⟨hB, hIW, k, hk, rfl, hT⟩ := hrel
    by_cases hlt : k < gs.length
    · obtain ⟨x, hx⟩ : ∃ x, gs[k]? = some x := ⟨gs[k], List.getElem?_eq_getElem hlt⟩
      obtain ⟨b, off, ha, k0, k1, k2, k3, k4, k5, k6, k7, k8, k9⟩ := (HW.out.below hB.out).addr hx
      subst ha
      have HF := Lib.hid (gfilter_take (p := p) hx)
      have HF2 := Lib.hid (gfilter_take (p := fun x => !p x) hx)
      have HN := Lib.hid (And.intro (List.length_filter_le p (gs.take k)) (List.length_filter_le (fun x => !p x) (gs.take k)))
      clear hx
      have KX := Lib.hid (Box.new0 wr #[.string ⟨x.cause.toArray⟩, .string ⟨x.lot.toArray⟩, .string ⟨x.ins.toArray⟩, .int .i64 x.acq, .int .i64 x.cls, .string ⟨x.q.toArray⟩, .string ⟨x.p.toArray⟩, .string ⟨x.c.toArray⟩, .string ⟨x.df.toArray⟩, .string ⟨x.rp.toArray⟩] 51)
      have hbx := below_alloc wr (.cells #[.string ⟨x.cause.toArray⟩, .string ⟨x.lot.toArray⟩, .string ⟨x.ins.toArray⟩, .int .i64 x.acq, .int .i64 x.cls, .string ⟨x.q.toArray⟩, .string ⟨x.p.toArray⟩, .string ⟨x.c.toArray⟩, .string ⟨x.df.toArray⟩, .string ⟨x.rp.toArray⟩] 51)
      have hs00 := hB.out.size
      have hIW2 := Lib.hid (HI.out _ _ hIW.out (Nat.le_trans hB0 hs00) hbx)
      have hB2 := Lib.hid (below_up hB.out hbx)
      have hT2 := Lib.hid (hT.out.below hbx)
      have HP := Lib.hid (fun W h => HP.out x W h)
      simp only [GainP.v, GainP.cs] at HP
      clear hbx
      go_wp2_with fail
      generalize wr.alloc _ = w0 at *
      refine (HP.out _ hIW2.out).mono ?_
      rintro e w1 ⟨rfl, hb⟩
      have hs0 := hB2.out.size
      have KX := Lib.hid (KX.out.below hb)
      have hIW := Lib.hid (HI.out _ _ hIW2.out (Nat.le_trans hB0 hs0) hb)
      have hB := Lib.hid (below_up hB2.out hb)
      have hT := Lib.hid (hT2.out.below hb)
      have hs1 := hB.out.size
      clear hb k0 k1 k2 k3 k4 k5 k6 k7 k8 k9 hs00 hs0 hIW2 hB2 hT2
      have q0 := KX.out.cell 0
      have q1 := KX.out.cell 1
      have q2 := KX.out.cell 2
      have q3 := KX.out.cell 3
      have q4 := KX.out.cell 4
      have q5 := KX.out.cell 5
      have q6 := KX.out.cell 6
      have q7 := KX.out.cell 7
      have q8 := KX.out.cell 8
      have q9 := KX.out.cell 9
      have hHN := HN.out
      simp at hHN
      cases hpz : p x
      · have HF : Hid ((gs.take (k + 1)).filter p = (gs.take k).filter p) := by show _ = _; rw [HF.out, hpz]; simp
        have HF2 : Hid ((gs.take (k + 1)).filter (fun x => !p x) = (gs.take k).filter (fun x => !p x) ++ [x]) := by show _ = _; rw [HF2.out, hpz]; simp
        clear HN hpz
        generalize (gs.take k).filter p = fs at *
        generalize (gs.take k).filter (fun x => !p x) = ns at *
        go_wp2_with (at_builtin; refine wpList_append_own_at _ rfl _ _ 44 rfl w.heap.size 51 i0 zGain 10 144 Tryz.underlying44 hi hz0 hz1 hz2 rfl (by decide) _ _ _ rfl (hT.out.2.1.alloc _) ⟨w1.heap.size, 0, none⟩ 1 1 (GainP.cs x).toList rfl rfl ?c1 ?c2 ?c3 ?c4 ?c5 ?_)
        case c1 =>
          intro j u hj
          rw [addr_add, Nat.zero_add]
          rw [show (w1.alloc (.cells #[.string ⟨x.cause.toArray⟩, .string ⟨x.lot.toArray⟩, .string ⟨x.ins.toArray⟩, .int .i64 x.acq, .int .i64 x.cls, .string ⟨x.q.toArray⟩, .string ⟨x.p.toArray⟩, .string ⟨x.c.toArray⟩, .string ⟨x.df.toArray⟩, .string ⟨x.rp.toArray⟩] 51)).cell? ⟨w1.heap.size, j, none⟩ = (GainP.cs x)[j]? from (Box.new0 w1 _ _).cell j]
          simpa using hj
        case c2 => intro u hu; exact gain_one x u hu
        case c3 => unfold maxLen; omega
        case c4 => omega
        case c5 => simp; omega
        intro v' w3 hown' hgrow _ hat
        have hat' : v'.ownBlock = u7.ownBlock ∨ v'.ownBlock = some (w1.alloc (.cells #[.string ⟨x.cause.toArray⟩, .string ⟨x.lot.toArray⟩, .string ⟨x.ins.toArray⟩, .int .i64 x.acq, .int .i64 x.cls, .string ⟨x.q.toArray⟩, .string ⟨x.p.toArray⟩, .string ⟨x.c.toArray⟩, .string ⟨x.df.toArray⟩, .string ⟨x.rp.toArray⟩] 51)).heap.size := by simpa using hat
        have hTa := (hT.out.below (below_alloc w1 (.cells #[.string ⟨x.cause.toArray⟩, .string ⟨x.lot.toArray⟩, .string ⟨x.ins.toArray⟩, .int .i64 x.acq, .int .i64 x.cls, .string ⟨x.q.toArray⟩, .string ⟨x.p.toArray⟩, .string ⟨x.c.toArray⟩, .string ⟨x.df.toArray⟩, .string ⟨x.rp.toArray⟩] 51))).swap
        have hT2 := Lib.hid (hTa.step hown' hgrow hat')
        have hB2 := Lib.hid (grown_below hTa.1 hgrow (below_up hB.out (below_alloc w1 _)) (by simp; omega))
        have hI2 := Lib.hid (HG.out _ _ hIW.out (below_alloc w1 (.cells #[.string ⟨x.cause.toArray⟩, .string ⟨x.lot.toArray⟩, .string ⟨x.ins.toArray⟩, .int .i64 x.acq, .int .i64 x.cls, .string ⟨x.q.toArray⟩, .string ⟨x.p.toArray⟩, .string ⟨x.c.toArray⟩, .string ⟨x.df.toArray⟩, .string ⟨x.rp.toArray⟩] 51)) _ _ hgrow (Nat.le_trans hB0 hs1) (fun k hk => (hTa.1.lt k hk).1))
        clear hat hat' hgrow hown' hTa
        go_wp2
        go_round
        case rel => exact ⟨hB2, hI2, k + 1, by omega, by go_num, by rw [HF.out, HF2.out, flat_append, flat_one, List.length_append]; exact hT2.out.swap⟩
        case measure => simp [intOf]; omega
      · have HF : Hid ((gs.take (k + 1)).filter p = (gs.take k).filter p ++ [x]) := by show _ = _; rw [HF.out, hpz]; simp
        have HF2 : Hid ((gs.take (k + 1)).filter (fun x => !p x) = (gs.take k).filter (fun x => !p x)) := by show _ = _; rw [HF2.out, hpz]; simp
        clear HN hpz
        generalize (gs.take k).filter p = fs at *
        generalize (gs.take k).filter (fun x => !p x) = ns at *
        go_wp2_with (at_builtin; refine wpList_append_own_at _ rfl _ _ 44 rfl w.heap.size 51 i0 zGain 10 144 Tryz.underlying44 hi hz0 hz1 hz2 rfl (by decide) _ _ _ rfl (hT.out.1.alloc _) ⟨w1.heap.size, 0, none⟩ 1 1 (GainP.cs x).toList rfl rfl ?c1 ?c2 ?c3 ?c4 ?c5 ?_)
        case c1 =>
          intro j u hj
          rw [addr_add, Nat.zero_add]
          rw [show (w1.alloc (.cells #[.string ⟨x.cause.toArray⟩, .string ⟨x.lot.toArray⟩, .string ⟨x.ins.toArray⟩, .int .i64 x.acq, .int .i64 x.cls, .string ⟨x.q.toArray⟩, .string ⟨x.p.toArray⟩, .string ⟨x.c.toArray⟩, .string ⟨x.df.toArray⟩, .string ⟨x.rp.toArray⟩] 51)).cell? ⟨w1.heap.size, j, none⟩ = (GainP.cs x)[j]? from (Box.new0 w1 _ _).cell j]
          simpa using hj
        case c2 => intro u hu; exact gain_one x u hu
        case c3 => unfold maxLen; omega
        case c4 => omega
        case c5 => simp; omega
        intro v' w3 hown' hgrow _ hat
        have hat' : v'.ownBlock = u6.ownBlock ∨ v'.ownBlock = some (w1.alloc (.cells #[.string ⟨x.cause.toArray⟩, .string ⟨x.lot.toArray⟩, .string ⟨x.ins.toArray⟩, .int .i64 x.acq, .int .i64 x.cls, .string ⟨x.q.toArray⟩, .string ⟨x.p.toArray⟩, .string ⟨x.c.toArray⟩, .string ⟨x.df.toArray⟩, .string ⟨x.rp.toArray⟩] 51)).heap.size := by simpa using hat
        have hTa := (hT.out.below (below_alloc w1 (.cells #[.string ⟨x.cause.toArray⟩, .string ⟨x.lot.toArray⟩, .string ⟨x.ins.toArray⟩, .int .i64 x.acq, .int .i64 x.cls, .string ⟨x.q.toArray⟩, .string ⟨x.p.toArray⟩, .string ⟨x.c.toArray⟩, .string ⟨x.df.toArray⟩, .string ⟨x.rp.toArray⟩] 51)))
        have hT2 := Lib.hid (hTa.step hown' hgrow hat')
        have hB2 := Lib.hid (grown_below hTa.1 hgrow (below_up hB.out (below_alloc w1 _)) (by simp; omega))
        have hI2 := Lib.hid (HG.out _ _ hIW.out (below_alloc w1 (.cells #[.string ⟨x.cause.toArray⟩, .string ⟨x.lot.toArray⟩, .string ⟨x.ins.toArray⟩, .int .i64 x.acq, .int .i64 x.cls, .string ⟨x.q.toArray⟩, .string ⟨x.p.toArray⟩, .string ⟨x.c.toArray⟩, .string ⟨x.df.toArray⟩, .string ⟨x.rp.toArray⟩] 51)) _ _ hgrow (Nat.le_trans hB0 hs1) (fun k hk => (hTa.1.lt k hk).1))
        clear hat hat' hgrow hown' hTa
        go_wp2
        go_round
        case rel => exact ⟨hB2, hI2, k + 1, by omega, by go_num, by rw [HF.out, HF2.out, flat_append, flat_one, List.length_append]; exact hT2.out⟩
        case measure => simp [intOf]; omega
    · obtain rfl : k = gs.length := by omega
      have hT := hT.out
      rw [List.take_length] at hT
      obtain ⟨a1, c1, e1, R1⟩ := row_of_owns hT.1
      obtain ⟨a2, c2, e2, R2⟩ := row_of_owns hT.2.1
      subst e1 e2
      have G1 := Lib.hid (gains_of_row R1)
      have G2 := Lib.hid (gains_of_row R2)
      clear R1 R2 hT
      go_wp2
      go_ret2
      exact ⟨⟨a1, c1, a2, c2, rfl, G1.out, G2.out⟩, hB.out⟩
def splitErr (gs : List GainP) (m : Int) : Int := if gs.any GainP.bad = true then 1 else if bad m = true then 2 else 0
noncomputable def splitRes (gs : List GainP) (m : Int) : List GainP × List GainP := if splitErr gs m = 0 then (gs.filter (GainP.long m), gs.filter fun x => !x.long m) else ([], [])
set_option maxHeartbeats 2000000 in
set_option maxRecDepth 100000 in
theorem split_any (gs : List GainP) (m : Int) (a : Option Addr) (c : Nat) (w : World) (hE : Env w) (hn : gs.length ≤ 1000) (hw : Gains w a gs) (hs : ∀ x, x ∈ gs → x.small) :
    Calls Tryz.prog 19 #[.slice a gs.length c, .int .i64 m] w fun e w' => (∃ a1 c1 a2 c2, e = .returned (.tuple #[.slice a1 (splitRes gs m).1.length c1, .slice a2 (splitRes gs m).2.length c2, .int .i64 (splitErr gs m)]) ∧ Gains w' a1 (splitRes gs m).1 ∧ Gains w' a2 (splitRes gs m).2) ∧ Below w.heap.size w w' := by
  have KB := Lib.hid (Box.new0 w #[.int .i64 m] 3)
  have HB := Lib.hid (below_alloc w (.cells #[.int .i64 m] 3))
  have HW := Lib.hid hw
  have H1 := Lib.hid (containsFunc_gain 55 GainP.bad (fun args w => MuLone.run_callFunc_enter Tryz.func55 (by kernel_rfl) rfl args w) gs a c (w.alloc (.cells #[.int .i64 m] 3)) (hE.below HB.out) (fun x W hx hW => split1_any x W hW (hs x hx)) (hw.below HB.out) (by omega))
  have H2 := Lib.hid (fun (b2 : Nat) W (k : W.cell? ⟨b2, 0, none⟩ = some (.int .i64 m)) => checkMonths_ints [m] b2 0 1 W (by simp) (fun k' hk => by
    match k', hk with
    | 0, _ => simpa using k))
  have H3 := Lib.hid (fun W (hb : Below w.heap.size w W) (hK : Box W w.heap.size #[.int .i64 m] 3) => divide_gain W.heap.size (GainP.long m) (fun W' => Box W' w.heap.size #[.int .i64 m] 3) (fun V V' h hb' => ⟨Nat.lt_of_lt_of_le h.1 hb'.size, (hb'.block _ hK.1).trans h.2⟩) (.pointer (some ⟨w.heap.size, 0, none⟩)) (fun x V h => split2_any x m w.heap.size _ V h) gs a c W (HW.out.below hb) hK (Nat.le_refl _) (by omega))
  clear hw hs hE
  have hr : Hid (splitErr gs m = if gs.any GainP.bad = true then 1 else if bad m = true then 2 else 0) := rfl
  have hq : Hid (splitRes gs m = if splitErr gs m = 0 then (gs.filter (GainP.long m), gs.filter fun x => !x.long m) else ([], [])) := rfl
  generalize splitRes gs m = rr at *
  generalize splitErr gs m = r at *
  go_enter Tryz.func19, Tryz.ntmps19
  go_wp2_with fail
  refine H1.out.mono ?_
  rintro e w1 ⟨rfl, hb⟩
  have KB := Lib.hid (KB.out.below hb)
  have HB := Lib.hid (below_up HB.out hb)
  have k0 := KB.out.cell 0
  clear hb H1
  cases g1 : gs.any GainP.bad
  case true =>
    have hr : Hid (r = 1) := by show _ = _; rw [hr.out, if_pos g1]
    have hq : Hid (rr = ([], [])) := by show _ = _; rw [hq.out, hr.out]; rfl
    go_wp2
    go_ret3
    rw [hr.out, hq.out]
    exact ⟨⟨none, 0, none, 0, rfl, .inl rfl, .inl rfl⟩, HB.out⟩
  have hr : Hid (r = if bad m = true then 2 else 0) := by show _ = _; rw [hr.out, if_neg (by simp [g1])]
  clear g1
  go_wp2_with fail
  have KD := Box.new0 w1 #[.int .i64 m] 3
  have KB := Lib.hid (KB.out.below (below_alloc w1 (.cells #[.int .i64 m] 3)))
  have HB := Lib.hid (below_up HB.out (below_alloc w1 (.cells #[.int .i64 m] 3)))
  refine (H2.out _ _ (KD.cell 0)).mono ?_
  rintro e w2 ⟨rfl, rfl⟩
  clear KD H2 k0
  generalize w1.alloc _ = w2 at *
  have hb1 : [m].any bad = bad m := by simp
  rw [hb1]
  clear hb1
  cases g1 : bad m
  case true =>
    have hr : Hid (r = 2) := by show _ = _; rw [hr.out, if_pos g1]
    have hq : Hid (rr = ([], [])) := by show _ = _; rw [hq.out, hr.out]; rfl
    simp only [if_true]
    go_wp2
    go_ret3
    rw [hr.out, hq.out]
    exact ⟨⟨none, 0, none, 0, rfl, .inl rfl, .inl rfl⟩, HB.out⟩
  have hr : Hid (r = 0) := by show _ = _; rw [hr.out, if_neg (by simp [g1])]
  have hq : Hid (rr = (gs.filter (GainP.long m), gs.filter fun x => !x.long m)) := by show _ = _; rw [hq.out, hr.out]; rfl
  simp only [Bool.false_eq_true, if_false]
  clear g1
  go_wp2_with fail
  refine (H3.out _ HB.out KB.out).mono ?_
  rintro e w3 ⟨⟨a1, c1, a2, c2, rfl, G1, G2⟩, hb⟩
  have HG := Lib.hid (And.intro G1 G2)
  have HB := Lib.hid (below_up HB.out hb)
  clear hb G1 G2 H3
  generalize gs.filter (GainP.long m) = l1 at *
  generalize (gs.filter fun x => !x.long m) = l2 at *
  go_wp2
  go_ret3
  rw [hr.out, hq.out]
  exact ⟨⟨a1, c1, a2, c2, rfl, HG.out.1, HG.out.2⟩, HB.out⟩
end Go.Proofs.YthlpfefckhdpiaaGreatDoor
