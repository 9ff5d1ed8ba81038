/- Gains: the plain form of a gain, and what Check says of it. -/
import Derived.Test.YthlpfefckhdpiaaGreatDoorLotP
import Derived.Test.YthlpfefckhdpiaaGreatDoorLen
import Derived.Test.YthlpfefckhdpiaaGreatDoorHold
namespace Go.Proofs.YthlpfefckhdpiaaGreatDoor
open Go.RowKit Num Dt
attribute [local go_sem] str_append str_extract str_size

structure GainP where
  cause : List UInt8
  lot : List UInt8
  ins : List UInt8
  acq : Int
  cls : Int
  q : List UInt8
  p : List UInt8
  c : List UInt8
  df : List UInt8
  rp : List UInt8
def GainP.cs (x : GainP) : Array Value := #[.string ⟨x.cause.toArray⟩, .string ⟨x.lot.toArray⟩, .string ⟨x.ins.toArray⟩, .int .i64 x.acq, .int .i64 x.cls, .string ⟨x.q.toArray⟩, .string ⟨x.p.toArray⟩, .string ⟨x.c.toArray⟩, .string ⟨x.df.toArray⟩, .string ⟨x.rp.toArray⟩]
def GainP.v (x : GainP) : Value := .agg x.cs
def GainP.loss (x : GainP) : Int := if val x.c - val x.p < 0 then 0 else val x.c - val x.p
def GainP.err (x : GainP) : Int :=
  if !(isName x.cause && isId x.lot && isName x.ins) then 23
  else if !(vday x.acq && vday x.cls) then 13
  else if x.cls < x.acq then 8
  else if !(isInt x.q && isInt x.p && isInt x.c && isInt x.df && isInt x.rp) then 1
  else if val x.q < 0 ∨ val x.c < 0 ∨ val x.rp < 0 ∨ val x.q < val x.rp then 2
  else if val x.df < 0 ∨ x.loss < val x.df ∨ (x.rp = [] ∧ x.df ≠ []) then 2
  else 0
def GainP.small (x : GainP) : Prop := x.cause.length ≤ 1000 ∧ x.lot.length ≤ 1000 ∧ x.ins.length ≤ 1000 ∧ x.q.length ≤ 13 ∧ x.p.length ≤ 13 ∧ x.c.length ≤ 13 ∧ x.df.length ≤ 13 ∧ x.rp.length ≤ 13
/-- days lie from the address a on -/
theorem validDay_any (d : Int) (w : World) : Calls Tryz.prog 143 #[.int .i64 d] w fun e w' => e = .returned (.bool !(vday d)) ∧ w = w' := by
  have hd := Lib.hid (show vday d = (decide (-25567 ≤ d) && decide (d ≤ 84005)) from rfl)
  by_cases g1 : d < -25567 <;> by_cases g2 : 84005 < d
  all_goals
    go_enter Tryz.func143, Tryz.ntmps143
    go_wp2
    go_ret
    exact ⟨ret_bool (by rw [hd.out]; simp; omega), rfl⟩
theorem indexFunc_day (g : Nat) (p : Int → Bool) (hen : ∀ (args : Array Value) (w : World), (callFunc g args).run Tryz.prog w = .ok (.enter g args) w)
    (hg : ∀ z W, Calls Tryz.prog g #[.int .i64 z] W fun e w' => e = .returned (.bool (p z)) ∧ W = w')
    (zs : List Int) (b off cap : Nat) (w : World) (hl : zs.length ≤ 9223372036854775807) (hc : ∀ k, k < zs.length → w.cell? ⟨b, off + k, none⟩ = some (.int .i64 (zs.getD k 0))) :
    Calls Tryz.prog 177 #[.slice (some ⟨b, off, none⟩) zs.length cap, .func (.func g) #[] #[]] w fun e w' => e = .returned (.int .i64 (idxOf p zs)) ∧ w = w' := by
  have HG := Lib.hid hg
  have HC := Lib.hid hc
  obtain ⟨n, hn⟩ : ∃ n, n = zs.length := ⟨_, rfl⟩
  have HN := Lib.hid hn
  rw [← hn] at hl ⊢
  clear hg hc hn
  go_enter Tryz.func177, Tryz.ntmps177
  go_wp2
  go_loop [5, 8] (fun _ i => ∃ k : Nat, k ≤ n ∧ i = .int .i64 k ∧ ∀ j, j < k → p (zs.getD j 0) = false) (fun _ i => n - (intOf i).toNat)
  case atStart => exact ⟨0, Nat.zero_le _, rfl, fun j hj => by omega⟩
  case round =>
    obtain ⟨k, hk, rfl, hp⟩ := hrel
    have HP := Lib.hid hp
    clear hp
    by_cases hlt : k < n
    · have hcell := HC.out k (by rw [← HN.out]; exact hlt)
      have hgk := fun W => HG.out (zs.getD k 0) W
      generalize hz : zs.getD k 0 = z at hgk hcell
      have HZ := Lib.hid hz
      clear hz
      by_cases hpk : p z = true
      · rw [hpk] at hgk
        have HGK := Lib.hid hgk
        have HPK := Lib.hid hpk
        clear hgk hpk
        go_wp2_with fail
        refine (HGK.out _).mono ?_
        rintro e w' ⟨rfl, rfl⟩
        go_wp2
        go_ret
        exact ⟨ret_int (idxOf_some (by rw [← HN.out]; exact hlt) HP.out (by rw [HZ.out]; exact HPK.out)).symm, rfl⟩
      · have hpk' : p z = false := by simpa using hpk
        rw [hpk'] at hgk
        have HGK := Lib.hid hgk
        have HPK := Lib.hid hpk'
        clear hgk hpk hpk'
        go_wp2_with fail
        refine (HGK.out _).mono ?_
        rintro e w' ⟨rfl, rfl⟩
        go_wp2
        go_round
        case rel => exact ⟨k + 1, by omega, by go_num, fun j hj => by
          rcases Nat.lt_or_ge j k with h | h
          · exact HP.out j h
          · obtain rfl : j = k := by omega
            rw [HZ.out]; exact HPK.out⟩
        case measure => simp [intOf]; omega
    · obtain rfl : k = n := by omega
      go_wp2
      go_ret
      exact ⟨ret_int (idxOf_none (by rw [← HN.out]; exact HP.out)).symm, rfl⟩

theorem containsFunc_day (g : Nat) (p : Int → Bool) (hen : ∀ (args : Array Value) (w : World), (callFunc g args).run Tryz.prog w = .ok (.enter g args) w)
    (hg : ∀ z W, Calls Tryz.prog g #[.int .i64 z] W fun e w' => e = .returned (.bool (p z)) ∧ W = w')
    (zs : List Int) (b off cap : Nat) (w : World) (hl : zs.length ≤ 9223372036854775807) (hc : ∀ k, k < zs.length → w.cell? ⟨b, off + k, none⟩ = some (.int .i64 (zs.getD k 0))) :
    Calls Tryz.prog 142 #[.slice (some ⟨b, off, none⟩) zs.length cap, .func (.func g) #[] #[]] w fun e w' => e = .returned (.bool (zs.any p)) ∧ w = w' := by
  have h := indexFunc_day g p hen hg zs b off cap w hl hc
  have e : decide (0 ≤ idxOf p zs) = zs.any p := by
    rw [Bool.eq_iff_iff]
    unfold idxOf
    cases hf : zs.findIdx? p with
    | none => rw [List.findIdx?_eq_none_iff] at hf; simp; intro x hx; simpa using hf x hx
    | some i =>
      obtain ⟨h1, h2, _⟩ := List.findIdx?_eq_some_iff_getElem.1 hf
      simp
      exact ⟨_, List.getElem_mem h1, h2⟩
  rw [← e]
  generalize idxOf p zs = r at *
  generalize zs.length = n at *
  have H := Lib.hid h
  clear h hg hc e hen
  go_enter Tryz.func142, Tryz.ntmps142
  go_wp2_with (go_at_call 177; refine H.out.mono ?_; rintro e w' ⟨rfl, rfl⟩)
  go_ret
  exact ⟨rfl, rfl⟩

theorem gvalid_any (d1 d2 : Int) (b : Nat) (w : World) (k0 : w.cell? ⟨b, 0, none⟩ = some (.int .i64 d1)) (k1 : w.cell? ⟨b, 1, none⟩ = some (.int .i64 d2)) :
    Calls Tryz.prog 103 #[.slice (some ⟨b, 0, none⟩) 2 2] w fun e w' => e = .returned (.bool (vday d1 && vday d2)) ∧ w = w' := by
  have h := containsFunc_day 143 (fun d => !(vday d)) (fun args w => MuLone.run_callFunc_enter Tryz.func143 (by kernel_rfl) rfl args w) validDay_any [d1, d2] b 0 2 w (by simp) (fun k hk => by
    match k, hk with
    | 0, _ => simpa using k0
    | 1, _ => simpa using k1)
  have e : [d1, d2].any (fun d => !(vday d)) = !(vday d1 && vday d2) := by cases h1 : vday d1 <;> cases h2 : vday d2 <;> simp [h1, h2]
  rw [e] at h
  have H := Lib.hid h
  clear h e k0 k1
  generalize (vday d1 && vday d2) = bb at *
  cases bb
  all_goals
    go_enter Tryz.func103, Tryz.ntmps103
    go_wp2_with (go_at_call 142; refine H.out.mono ?_; rintro e w' ⟨rfl, rfl⟩)
    go_ret
    exact ⟨rfl, rfl⟩
theorem negative_any (l : List UInt8) (w : World) (hl : l.length ≤ 10000000000) :
    Calls Tryz.prog 105 #[.string ⟨l.toArray⟩] w fun e w' => e = .returned (.bool (decide (val l < 0))) ∧ Below w.heap.size w w' := by
  have H := Lib.hid (Cmp0 l w hl)
  have hc := Lib.hid (cmpI_lt (val l) 0)
  generalize cmpI (val l) 0 = z at *
  go_enter Tryz.func105, Tryz.ntmps105
  go_wp2_with fail
  refine H.out.mono ?_
  rintro e w1 ⟨rfl, hb⟩
  go_wp2
  go_ret
  exact ⟨ret_bool (by simp [hc.out]), hb⟩
set_option maxHeartbeats 1000000 in
theorem loss_any (x : GainP) (w : World) (hE : Env w) (h1 : x.p.length ≤ 1000) (h2 : x.c.length ≤ 1000) :
    Calls Tryz.prog 107 #[x.v] w fun e w' => e = .returned (.string ⟨(canon x.loss).toArray⟩) ∧ Below w.heap.size w w' := by
  have hr : Hid (x.loss = if val x.c - val x.p < 0 then 0 else val x.c - val x.p) := rfl
  have hln := sub_len (l := x.c) (m := x.p) (K := 1000) h2 h1
  have H1 := Lib.hid (fun W hW => Sub_any x.c x.p W hW (by omega) (by omega))
  have H2 := Lib.hid (fun W => negative_any (canon (val x.c - val x.p)) W (by omega))
  rw [val_canon] at H2
  have HE := Lib.hid hE
  clear hE hln
  generalize x.loss = r at *
  generalize val x.c - val x.p = z at *
  have HB := Lib.hid (below_alloc w (.cells x.cs 51))
  simp only [GainP.v, GainP.cs] at *
  go_enter Tryz.func107, Tryz.ntmps107
  go_wp2_with fail
  refine (H1.out _ (HE.out.below HB.out)).mono ?_
  rintro e w1 ⟨rfl, hb⟩
  have HB := Lib.hid (below_up HB.out hb)
  clear hb
  go_wp2_with fail
  refine (H2.out _).mono ?_
  rintro e w2 ⟨rfl, hb⟩
  have HB := Lib.hid (below_up HB.out hb)
  clear hb
  by_cases g : z < 0
  · have hr2 : Hid (r = 0) := by show _ = _; rw [hr.out, if_pos g]
    rw [decide_eq_true g]
    go_wp2
    go_ret
    exact ⟨ret_val (by rw [hr2.out, canon_zero]; rfl), HB.out⟩
  · have hr2 : Hid (r = z) := by show _ = _; rw [hr.out, if_neg g]
    rw [decide_eq_false g]
    have hcz : Hid (canon r = canon z) := by show _ = _; rw [hr2.out]
    generalize canon z = cz at *
    go_wp2
    go_ret
    exact ⟨ret_val (by rw [hcz.out]; rfl), HB.out⟩
end Go.Proofs.YthlpfefckhdpiaaGreatDoor
