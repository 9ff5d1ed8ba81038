/- Plain facts on numbers in groups of nine digits, the lowest one first. No program in sight. -/
import Derived.Test.YthlpfefckhdpiaaGreatDoorInt
namespace Go.Proofs.YthlpfefckhdpiaaGreatDoor.Num
open Go.Lib

theorem snoc_of {α : Type} {m : List α} (h : m ≠ []) : ∃ r c, m = r ++ [c] := ⟨m.dropLast, m.getLast h, (List.dropLast_concat_getLast h).symm⟩
def groupsOf (n : Nat) : List Nat := if h : n = 0 then [] else n % 1000000000 :: groupsOf (n / 1000000000)
termination_by n
decreasing_by omega
def gval : List Nat → Nat
  | [] => 0
  | g :: r => g + 1000000000 * gval r
/-- groups below the base, the highest one not 0 -/
def Norm (m : List Nat) : Prop := (∀ g ∈ m, g < 1000000000) ∧ m.getLast? ≠ some 0

theorem groupsOf_zero : groupsOf 0 = [] := by rw [groupsOf]; simp
theorem groupsOf_pos {n : Nat} (h : n ≠ 0) : groupsOf n = n % 1000000000 :: groupsOf (n / 1000000000) := by rw [groupsOf, dif_neg h]
theorem groupsOf_nil_iff (n : Nat) : groupsOf n = [] ↔ n = 0 := by
  constructor
  · intro h
    by_cases h0 : n = 0
    · exact h0
    · rw [groupsOf_pos h0] at h; cases h
  · rintro rfl; exact groupsOf_zero
theorem gval_groupsOf (n : Nat) : gval (groupsOf n) = n := by
  induction n using Nat.strongRecOn with
  | _ n ih =>
    by_cases h : n = 0
    · subst h; rw [groupsOf_zero]; rfl
    · rw [groupsOf_pos h, gval, ih (n / 1000000000) (by omega)]; omega
theorem groupsOf_lt (n : Nat) : ∀ g ∈ groupsOf n, g < 1000000000 := by
  induction n using Nat.strongRecOn with
  | _ n ih =>
    intro g hg
    by_cases h : n = 0
    · subst h; rw [groupsOf_zero] at hg; cases hg
    · rw [groupsOf_pos h] at hg
      cases hg with
      | head => omega
      | tail _ hm => exact ih (n / 1000000000) (by omega) g hm
theorem groupsOf_last (n : Nat) : (groupsOf n).getLast? ≠ some 0 := by
  induction n using Nat.strongRecOn with
  | _ n ih =>
    by_cases h : n = 0
    · subst h; rw [groupsOf_zero]; simp
    · rw [groupsOf_pos h]
      by_cases h1 : n / 1000000000 = 0
      · rw [h1, groupsOf_zero]; simp; omega
      · have hne : groupsOf (n / 1000000000) ≠ [] := by rw [Ne, groupsOf_nil_iff]; exact h1
        rw [List.getLast?_cons_of_ne_nil hne]
        exact ih _ (by omega)
theorem groupsOf_norm (n : Nat) : Norm (groupsOf n) := ⟨groupsOf_lt n, groupsOf_last n⟩
theorem getLast?_cons_ne {g : Nat} {r : List Nat} (h : r ≠ []) : (g :: r).getLast? = r.getLast? := by
  cases r with
  | nil => exact absurd rfl h
  | cons a b => simp [List.getLast?_cons_cons]
theorem gval_pos {m : List Nat} (h : m.getLast? ≠ some 0) (hne : m ≠ []) : gval m ≠ 0 := by
  induction m with
  | nil => exact absurd rfl hne
  | cons g r ih =>
    unfold gval
    by_cases hr : r = []
    · subst hr; simp at h; omega
    · rw [getLast?_cons_ne hr] at h
      have := ih h hr
      omega
theorem norm_eq {m : List Nat} (h : Norm m) : m = groupsOf (gval m) := by
  induction m with
  | nil => rw [gval, groupsOf_zero]
  | cons g r ih =>
    have hg : g < 1000000000 := h.1 g (List.mem_cons_self ..)
    have hp := gval_pos h.2 (by simp)
    rw [groupsOf_pos hp, gval]
    have hr : Norm r := by
      refine ⟨fun x hx => h.1 x (List.mem_cons_of_mem _ hx), ?_⟩
      by_cases hr : r = []
      · subst hr; simp
      · have := h.2; rwa [getLast?_cons_ne hr] at this
    rw [show (g + 1000000000 * gval r) % 1000000000 = g by omega, show (g + 1000000000 * gval r) / 1000000000 = gval r by omega, ← ih hr]
theorem gval_append (a b : List Nat) : gval (a ++ b) = gval a + 1000000000 ^ a.length * gval b := by
  induction a with
  | nil => simp [gval]
  | cons g r ih =>
    simp only [List.cons_append, gval, ih, List.length_cons, Nat.pow_succ, Nat.mul_add]
    rw [Nat.mul_comm (1000000000 ^ r.length) 1000000000, Nat.mul_assoc, Nat.add_assoc]
theorem gval_lt {m : List Nat} (h : ∀ g ∈ m, g < 1000000000) : gval m < 1000000000 ^ m.length := by
  induction m with
  | nil => simp [gval]
  | cons g r ih =>
    have h1 := h g (List.mem_cons_self ..)
    have h2 := ih (fun x hx => h x (List.mem_cons_of_mem _ hx))
    rw [gval, List.length_cons, Nat.pow_succ]; omega
theorem len_lt {m : List Nat} (h : Norm m) (hne : m ≠ []) : 1000000000 ^ (m.length - 1) ≤ gval m := by
  obtain ⟨r, c, rfl⟩ : ∃ r c, m = r ++ [c] := snoc_of hne
  rw [gval_append]
  simp only [List.length_append, List.length_singleton, Nat.add_sub_cancel, gval, Nat.mul_zero, Nat.add_zero]
  have hc : c ≠ 0 := by have := h.2; simpa using this
  have : 1000000000 ^ r.length * 1 ≤ 1000000000 ^ r.length * c := Nat.mul_le_mul_left _ (by omega)
  omega
/-- dropping zeros at the end -/
def cutZ (m : List Nat) : List Nat := (m.reverse.dropWhile (· == 0)).reverse
theorem cutZ_nil : cutZ [] = [] := rfl
theorem cutZ_snoc_zero (m : List Nat) : cutZ (m ++ [0]) = cutZ m := by simp [cutZ]
theorem cutZ_snoc_pos (m : List Nat) (c : Nat) (h : c ≠ 0) : cutZ (m ++ [c]) = m ++ [c] := by
  simp [cutZ, h]
theorem cutZ_spec (m : List Nat) : gval (cutZ m) = gval m ∧ (cutZ m).getLast? ≠ some 0 ∧ ∀ g ∈ cutZ m, g ∈ m := by
  generalize hk : m.length = k
  induction k generalizing m with
  | zero => cases m with
    | nil => simp [cutZ]
    | cons a b => simp at hk
  | succ k ih =>
    obtain ⟨r, c, rfl⟩ : ∃ r c, m = r ++ [c] := snoc_of (by intro h; rw [h] at hk; simp at hk)
    by_cases hc : c = 0
    · subst hc
      rw [cutZ_snoc_zero]
      obtain ⟨a, b, d⟩ := ih r (by simp at hk; omega)
      refine ⟨by rw [a, gval_append]; simp [gval], b, fun g hg => ?_⟩
      exact List.mem_append_left _ (d g hg)
    · rw [cutZ_snoc_pos _ _ hc]
      exact ⟨rfl, by simpa using hc, fun g hg => hg⟩
theorem cutZ_eq {m : List Nat} (h : ∀ g ∈ m, g < 1000000000) : cutZ m = groupsOf (gval m) := by
  obtain ⟨a, b, d⟩ := cutZ_spec m
  rw [← a]
  exact norm_eq ⟨fun g hg => h g (d g hg), b⟩
theorem cutZ_norm {m : List Nat} (h : m.getLast? ≠ some 0) : cutZ m = m := by
  by_cases hm : m = []
  · subst hm; rfl
  · obtain ⟨r, c, rfl⟩ : ∃ r c, m = r ++ [c] := snoc_of hm
    exact cutZ_snoc_pos _ _ (by simpa using h)

/-! ### the groups of a list of digits -/
theorem nat_take_drop (l : List UInt8) (k : Nat) : nat l = nat (l.take k) * 10 ^ (l.length - k) + nat (l.drop k) := by
  conv => lhs; rw [← List.take_append_drop k l]
  rw [nat_append]; simp
/-- the groups of the digits l, when e of them are left: as read collects them -/
theorem groups_step {ds : List UInt8} (hd : ds.all isDig = true) {e : Nat} (he : e ≤ ds.length) (h0 : 0 < e) {m : List Nat} (hm : ∀ g ∈ m, g < 1000000000)
    (hv : gval m + 1000000000 ^ m.length * nat (ds.take e) = nat ds) :
    (∀ g ∈ m ++ [nat ((ds.drop (e - 9)).take (e - (e - 9)))], g < 1000000000) ∧
    gval (m ++ [nat ((ds.drop (e - 9)).take (e - (e - 9)))]) + 1000000000 ^ (m ++ [nat ((ds.drop (e - 9)).take (e - (e - 9)))]).length * nat (ds.take (e - 9)) = nat ds := by
  have hlen : ((ds.drop (e - 9)).take (e - (e - 9))).length = e - (e - 9) := by
    rw [List.length_take, List.length_drop]; omega
  have hall : ((ds.drop (e - 9)).take (e - (e - 9))).all isDig = true := by
    rw [List.all_eq_true] at *
    exact fun x hx => hd x (List.mem_of_mem_drop (List.mem_of_mem_take hx))
  have hlt := nat_lt _ hall
  rw [hlen] at hlt
  constructor
  · intro g hg
    rw [List.mem_append] at hg
    rcases hg with hg | hg
    · exact hm g hg
    · have := List.mem_singleton.1 hg
      subst this
      have : 10 ^ (e - (e - 9)) ≤ 10 ^ 9 := Nat.pow_le_pow_right (by decide) (by omega)
      have e9 : 10 ^ 9 = 1000000000 := by decide
      omega
  · have e1 := nat_take_drop (ds.take e) (e - 9)
    rw [List.take_take, List.length_take, Nat.min_eq_left (by omega : e - 9 ≤ e), Nat.min_eq_left he, List.drop_take] at e1
    rw [gval_append, List.length_append, List.length_singleton, ← hv, e1]
    simp only [gval, Nat.mul_zero, Nat.add_zero]
    rw [Nat.pow_succ]
    by_cases h9 : 9 ≤ e
    · rw [show e - (e - 9) = 9 by omega]
      have e9 : 10 ^ 9 = 1000000000 := by decide
      rw [e9, Nat.mul_add, Nat.add_assoc, Nat.mul_comm (nat (ds.take (e - 9))) 1000000000, ← Nat.mul_assoc, Nat.add_comm (_ * nat _) (_ * nat _)]
    · rw [show e - 9 = 0 by omega]
      simp [nat]
theorem groups_len {ds : List UInt8} (hd : ds.all isDig = true) (h0 : ds.head? ≠ some 48) {m : List Nat} (hm : ∀ g ∈ m, g < 1000000000) (hv : gval m = nat ds) (hl : m.length * 9 ≤ ds.length + 8) : m = groupsOf (nat ds) := by
  rw [← hv]
  refine norm_eq ⟨hm, ?_⟩
  intro hz
  have hne : m ≠ [] := by intro h; rw [h] at hz; simp at hz
  obtain ⟨r, c, rfl⟩ : ∃ r c, m = r ++ [c] := snoc_of hne
  simp at hz
  subst hz
  have hg : gval r = nat ds := by rw [← hv, gval_append]; simp [gval]
  have hr := gval_lt (m := r) (fun g hg => hm g (List.mem_append_left _ hg))
  have hdn : ds ≠ [] := by intro h; rw [h] at hl; simp at hl; omega
  have e := digits_eq ds hd h0 hdn
  -- the digits of a number below a power
  have hlow : 10 ^ (ds.length - 1) ≤ nat ds := by
    cases ds with
    | nil => exact absurd rfl hdn
    | cons d r' =>
      rw [nat_cons]
      simp only [List.all_cons, Bool.and_eq_true] at hd
      have h1 := (isDig_iff d).1 hd.1
      have h2 : d.toNat ≠ 48 := by
        intro h48
        apply h0
        simp
        exact UInt8.toNat_inj.1 h48
      have : 1 * 10 ^ r'.length ≤ (d.toNat - 48) * 10 ^ r'.length := Nat.mul_le_mul_right _ (by omega)
      simp
      omega
  have e9 : (1000000000 : Nat) = 10 ^ 9 := by decide
  rw [e9, ← Nat.pow_mul] at hr
  have : 10 ^ (9 * r.length) ≤ 10 ^ (ds.length - 1) := Nat.pow_le_pow_right (by decide) (by simp at hl; omega)
  omega

/-! ### comparing -/
theorem gval_split (m : List Nat) (j : Nat) (h : j < m.length) : gval m = gval (m.take j) + 1000000000 ^ j * (m.getD j 0 + 1000000000 * gval (m.drop (j + 1))) := by
  have e : m = m.take j ++ (m.getD j 0 :: m.drop (j + 1)) := by
    rw [List.getD_eq_getElem?_getD, List.getElem?_eq_getElem h, Option.getD_some]
    rw [← List.drop_eq_getElem_cons h, List.take_append_drop]
  conv => lhs; rw [e]
  rw [gval_append, List.length_take, Nat.min_eq_left (by omega), gval]
theorem top_lt {m n : List Nat} (hm : ∀ g ∈ m, g < 1000000000) (hl : m.length = n.length) {j : Nat} (hj : j < m.length) (hd : m.drop (j + 1) = n.drop (j + 1)) (hlt : m.getD j 0 < n.getD j 0) : gval m < gval n := by
  rw [gval_split m j hj, gval_split n j (by omega), hd]
  have h1 := gval_lt (m := m.take j) (fun g hg => hm g (List.mem_of_mem_take hg))
  rw [List.length_take, Nat.min_eq_left (by omega)] at h1
  generalize 1000000000 * gval (n.drop (j + 1)) = t
  have h2 : 1000000000 ^ j * (m.getD j 0 + t + 1) ≤ 1000000000 ^ j * (n.getD j 0 + t) := Nat.mul_le_mul_left _ (by omega)
  rw [Nat.mul_add, Nat.mul_one] at h2
  omega
/-- what compare returns -/
def cmpV (m n : List Nat) : Int :=
  if m.length = n.length then (if gval m < gval n then -1 else if gval n < gval m then 1 else 0) else (m.length : Int) - n.length
theorem cmpV_lt {m n : List Nat} (h : m.length = n.length) (hlt : gval m < gval n) : cmpV m n = -1 := by unfold cmpV; rw [if_pos h, if_pos hlt]
theorem cmpV_gt {m n : List Nat} (h : m.length = n.length) (hlt : gval n < gval m) : cmpV m n = 1 := by unfold cmpV; rw [if_pos h, if_neg (by omega), if_pos hlt]
theorem cmpV_eq {m n : List Nat} (h : m.length = n.length) (he : gval m = gval n) : cmpV m n = 0 := by unfold cmpV; rw [if_pos h, if_neg (by omega), if_neg (by omega)]
theorem cmpV_len {m n : List Nat} (h : m.length ≠ n.length) : cmpV m n = (m.length : Int) - n.length := by unfold cmpV; rw [if_neg h]
theorem len_le_of_lt {x y : Nat} (h : x ≤ y) : (groupsOf x).length ≤ (groupsOf y).length := by
  rcases Nat.lt_or_ge (groupsOf y).length (groupsOf x).length with g | g
  · have hne : groupsOf x ≠ [] := by intro e; rw [e] at g; simp at g
    have a := len_lt (groupsOf_norm x) hne
    have b := gval_lt (groupsOf_lt y)
    rw [gval_groupsOf] at a b
    have c : 1000000000 ^ (groupsOf y).length ≤ 1000000000 ^ ((groupsOf x).length - 1) := Nat.pow_le_pow_right (by decide) (by omega)
    omega
  · exact g
theorem cmpV_groups (x y : Nat) : (x < y → cmpV (groupsOf x) (groupsOf y) < 0) ∧ (x = y → cmpV (groupsOf x) (groupsOf y) = 0) ∧ (y < x → 0 < cmpV (groupsOf x) (groupsOf y)) := by
  refine ⟨fun h => ?_, fun h => ?_, fun h => ?_⟩
  · have := len_le_of_lt (Nat.le_of_lt h)
    by_cases he : (groupsOf x).length = (groupsOf y).length
    · rw [cmpV_lt he (by rw [gval_groupsOf, gval_groupsOf]; exact h)]; decide
    · rw [cmpV_len he]; omega
  · subst h; exact cmpV_eq rfl rfl
  · have := len_le_of_lt (Nat.le_of_lt h)
    by_cases he : (groupsOf x).length = (groupsOf y).length
    · rw [cmpV_gt he (by rw [gval_groupsOf, gval_groupsOf]; exact h)]; decide
    · rw [cmpV_len he]; omega
theorem cmpV_lt_iff (x y : Nat) : cmpV (groupsOf x) (groupsOf y) < 0 ↔ x < y := by
  obtain ⟨a, b, c⟩ := cmpV_groups x y
  constructor
  · intro h
    rcases Nat.lt_trichotomy x y with g | g | g
    · exact g
    · have := b g; omega
    · have := c g; omega
  · exact a

/-! ### adding: the groups of the longer one are taken one after the other -/
def plusC (m n : List Nat) (c : Nat) : List Nat × Nat :=
  match m with
  | [] => ([], c)
  | g :: r => let s := g + n.headD 0 + c; let t := plusC r n.tail (s / 1000000000); (s % 1000000000 :: t.1, t.2)
theorem plusC_val (m n : List Nat) (c : Nat) (h : n.length ≤ m.length) : gval (plusC m n c).1 + 1000000000 ^ m.length * (plusC m n c).2 = gval m + gval n + c := by
  induction m generalizing n c with
  | nil =>
    have : n = [] := List.eq_nil_of_length_eq_zero (by simpa using h)
    subst this; simp [plusC, gval]
  | cons g r ih =>
    have e := ih n.tail ((g + n.headD 0 + c) / 1000000000) (by simp at h ⊢; omega)
    have en : gval n = n.headD 0 + 1000000000 * gval n.tail := by cases n <;> simp [gval]
    simp only [plusC, gval, List.length_cons, Nat.pow_succ]
    rw [en]
    generalize (plusC r n.tail ((g + n.headD 0 + c) / 1000000000)).2 = q at *
    generalize gval (plusC r n.tail ((g + n.headD 0 + c) / 1000000000)).1 = p at *
    rw [Nat.mul_comm (1000000000 ^ r.length) 1000000000, Nat.mul_assoc]
    omega
theorem plusC_len (m n : List Nat) (c : Nat) : (plusC m n c).1.length = m.length := by
  induction m generalizing n c with
  | nil => rfl
  | cons g r ih => simp [plusC, ih]
theorem plusC_lt (m n : List Nat) (c : Nat) : ∀ g ∈ (plusC m n c).1, g < 1000000000 := by
  induction m generalizing n c with
  | nil => simp [plusC]
  | cons g r ih =>
    intro x hx
    simp only [plusC, List.mem_cons] at hx
    rcases hx with rfl | hx
    · exact Nat.mod_lt _ (by decide)
    · exact ih _ _ x hx
theorem plusC_carry (m n : List Nat) (c : Nat) (hm : ∀ g ∈ m, g < 1000000000) (hn : ∀ g ∈ n, g < 1000000000) (hc : c ≤ 1) : (plusC m n c).2 ≤ 1 := by
  induction m generalizing n c with
  | nil => exact hc
  | cons g r ih =>
    have h1 := hm g (List.mem_cons_self ..)
    have h2 : n.headD 0 < 1000000000 := by cases n with
      | nil => decide
      | cons a b => exact hn a (List.mem_cons_self ..)
    exact ih _ _ (fun x hx => hm x (List.mem_cons_of_mem _ hx)) (fun x hx => hn x (List.mem_of_mem_tail hx)) (by omega)
/-- what plus returns, the longer one first -/
def plusG (m n : List Nat) : List Nat := if (plusC m n 0).2 = 0 then (plusC m n 0).1 else (plusC m n 0).1 ++ [(plusC m n 0).2]
theorem plusG_eq {m n : List Nat} (hm : Norm m) (hn : Norm n) (h : n.length ≤ m.length) : plusG m n = groupsOf (gval m + gval n) := by
  have hv := plusC_val m n 0 h
  have hl := plusC_len m n 0
  have hlt := plusC_lt m n 0
  have hcy := plusC_carry m n 0 hm.1 hn.1 (by decide)
  unfold plusG
  by_cases hc : (plusC m n 0).2 = 0
  · rw [if_pos hc]
    rw [hc] at hv
    rw [show gval m + gval n = gval (plusC m n 0).1 by omega]
    refine norm_eq ⟨hlt, ?_⟩
    intro hz
    have hne : (plusC m n 0).1 ≠ [] := by intro e; rw [e] at hz; simp at hz
    have hmne : m ≠ [] := by intro e; subst e; exact hne rfl
    have b := len_lt hm hmne
    obtain ⟨r, c, hrc⟩ := snoc_of hne
    rw [hrc] at hz hl hv hlt
    simp at hz
    subst hz
    have g1 := gval_lt (m := r) (fun g hg => hlt g (List.mem_append_left _ hg))
    rw [gval_append] at hv
    simp [gval] at hv hl
    rw [← hl, Nat.add_sub_cancel] at b
    omega
  · rw [if_neg hc]
    have e1 : gval ((plusC m n 0).1 ++ [(plusC m n 0).2]) = gval m + gval n := by
      rw [gval_append, hl]; simp [gval]; omega
    rw [← e1]
    refine norm_eq ⟨?_, by simpa using hc⟩
    intro g hg
    rw [List.mem_append] at hg
    rcases hg with hg | hg
    · exact hlt g hg
    · have := List.mem_singleton.1 hg; omega

/-! ### subtracting -/
def minusC (m n : List Nat) (c : Nat) : List Nat × Nat :=
  match m with
  | [] => ([], c)
  | g :: r => let s := c + n.headD 0; if g < s then (let t := minusC r n.tail 1; ((g + 1000000000 - s) :: t.1, t.2)) else (let t := minusC r n.tail 0; ((g - s) :: t.1, t.2))
theorem minusC_val (m n : List Nat) (c : Nat) (h : n.length ≤ m.length) (hn : ∀ g ∈ n, g < 1000000000) (hc : c ≤ 1) : gval (minusC m n c).1 + gval n + c = gval m + 1000000000 ^ m.length * (minusC m n c).2 := by
  induction m generalizing n c with
  | nil =>
    have : n = [] := List.eq_nil_of_length_eq_zero (by simpa using h)
    subst this; simp [minusC, gval]
  | cons g r ih =>
    have h2 : n.headD 0 < 1000000000 := by cases n with
      | nil => decide
      | cons a b => exact hn a (List.mem_cons_self ..)
    have en : gval n = n.headD 0 + 1000000000 * gval n.tail := by cases n <;> simp [gval]
    have hnt : ∀ g ∈ n.tail, g < 1000000000 := fun x hx => hn x (List.mem_of_mem_tail hx)
    simp only [minusC]
    split
    · have e := ih n.tail 1 (by simp at h ⊢; omega) hnt (by decide)
      simp only [gval, List.length_cons, Nat.pow_succ]
      rw [en]
      generalize (minusC r n.tail 1).2 = q at *
      generalize gval (minusC r n.tail 1).1 = p at *
      rw [Nat.mul_comm (1000000000 ^ r.length) 1000000000, Nat.mul_assoc]
      omega
    · have e := ih n.tail 0 (by simp at h ⊢; omega) hnt (by decide)
      simp only [gval, List.length_cons, Nat.pow_succ]
      rw [en]
      generalize (minusC r n.tail 0).2 = q at *
      generalize gval (minusC r n.tail 0).1 = p at *
      rw [Nat.mul_comm (1000000000 ^ r.length) 1000000000, Nat.mul_assoc]
      omega
theorem minusC_len (m n : List Nat) (c : Nat) : (minusC m n c).1.length = m.length := by
  induction m generalizing n c with
  | nil => rfl
  | cons g r ih => simp only [minusC]; split <;> simp [ih]
theorem minusC_lt (m n : List Nat) (c : Nat) (hm : ∀ g ∈ m, g < 1000000000) : ∀ g ∈ (minusC m n c).1, g < 1000000000 := by
  induction m generalizing n c with
  | nil => simp [minusC]
  | cons g r ih =>
    have h1 := hm g (List.mem_cons_self ..)
    intro x hx
    simp only [minusC] at hx
    split at hx
    all_goals
      rcases List.mem_cons.1 hx with rfl | hx
      · omega
      · exact ih _ _ (fun x hx => hm x (List.mem_cons_of_mem _ hx)) x hx
theorem minusC_carry (m n : List Nat) (c : Nat) (hc : c ≤ 1) : (minusC m n c).2 ≤ 1 := by
  induction m generalizing n c with
  | nil => exact hc
  | cons g r ih =>
    simp only [minusC]
    split
    · exact ih _ _ (by decide)
    · exact ih _ _ (by decide)
theorem minusG_eq {m n : List Nat} (hm : Norm m) (hn : Norm n) (h : gval n ≤ gval m) (hl : n.length ≤ m.length) : cutZ (minusC m n 0).1 = groupsOf (gval m - gval n) := by
  have hv := minusC_val m n 0 hl hn.1 (by decide)
  have hlt := minusC_lt m n 0 hm.1
  have hlen := minusC_len m n 0
  have hc := minusC_carry m n 0 (by decide)
  have g1 := gval_lt hlt
  rw [hlen] at g1
  rw [cutZ_eq hlt]
  congr 1
  have : (minusC m n 0).2 = 0 := by
    rcases Nat.eq_zero_or_pos (minusC m n 0).2 with h0 | h0
    · exact h0
    · have e1 : (minusC m n 0).2 = 1 := by omega
      rw [e1] at hv
      omega
  rw [this] at hv
  omega

/-! ### adding, step by step -/
theorem drop_cons_getD (m : List Nat) (k : Nat) (h : k < m.length) : m.drop k = m.getD k 0 :: m.drop (k + 1) := by
  rw [List.drop_eq_getElem_cons h, List.getD_eq_getElem?_getD, List.getElem?_eq_getElem h]; rfl
theorem headD_drop (n : List Nat) (k : Nat) : (n.drop k).headD 0 = n.getD k 0 := by
  rcases Nat.lt_or_ge k n.length with h | h
  · rw [drop_cons_getD n k h]; rfl
  · rw [List.drop_eq_nil_of_le h, List.getD_eq_getElem?_getD, List.getElem?_eq_none h]; rfl
theorem tail_drop (n : List Nat) (k : Nat) : (n.drop k).tail = n.drop (k + 1) := by simp
/-- after k groups: o is what is written, c the carry -/
def PlusAt (m n : List Nat) (k : Nat) (o : List Nat) (c : Nat) : Prop :=
  o.length = k ∧ c ≤ 1 ∧ plusC m n 0 = (o ++ (plusC (m.drop k) (n.drop k) c).1, (plusC (m.drop k) (n.drop k) c).2)
theorem plusAt_zero (m n : List Nat) : PlusAt m n 0 [] 0 := ⟨rfl, by decide, rfl⟩
theorem plusAt_succ {m n : List Nat} {k : Nat} {o : List Nat} {c : Nat} (h : PlusAt m n k o c) (hk : k < m.length) (hm : ∀ g ∈ m, g < 1000000000) (hn : ∀ g ∈ n, g < 1000000000) :
    PlusAt m n (k + 1) (o ++ [(m.getD k 0 + n.getD k 0 + c) % 1000000000]) ((m.getD k 0 + n.getD k 0 + c) / 1000000000) := by
  obtain ⟨h1, h2, h3⟩ := h
  have hg : m.getD k 0 < 1000000000 := hm _ (by rw [List.getD_eq_getElem?_getD, List.getElem?_eq_getElem hk]; exact List.getElem_mem hk)
  have hg' : n.getD k 0 < 1000000000 := by
    rcases Nat.lt_or_ge k n.length with h | h
    · exact hn _ (by rw [List.getD_eq_getElem?_getD, List.getElem?_eq_getElem h]; exact List.getElem_mem h)
    · rw [List.getD_eq_getElem?_getD, List.getElem?_eq_none h]; decide
  refine ⟨by simp [h1], by omega, ?_⟩
  rw [h3, drop_cons_getD m k hk]
  simp only [plusC, headD_drop, tail_drop, List.append_assoc, List.singleton_append]
theorem plusAt_end {m n : List Nat} {o : List Nat} {c : Nat} (h : PlusAt m n m.length o c) : plusG m n = if c = 0 then o else o ++ [c] := by
  obtain ⟨h1, h2, h3⟩ := h
  rw [List.drop_length] at h3
  simp only [plusC, List.append_nil] at h3
  unfold plusG; rw [h3]

/-! ### subtracting, step by step -/
def MinusAt (m n : List Nat) (k : Nat) (o : List Nat) (c : Nat) : Prop :=
  o.length = k ∧ c ≤ 1 ∧ minusC m n 0 = (o ++ (minusC (m.drop k) (n.drop k) c).1, (minusC (m.drop k) (n.drop k) c).2)
theorem minusAt_zero (m n : List Nat) : MinusAt m n 0 [] 0 := ⟨rfl, by decide, rfl⟩
theorem minusAt_lt {m n : List Nat} {k : Nat} {o : List Nat} {c : Nat} (h : MinusAt m n k o c) (hk : k < m.length) (hlt : m.getD k 0 < c + n.getD k 0) :
    MinusAt m n (k + 1) (o ++ [m.getD k 0 + 1000000000 - (c + n.getD k 0)]) 1 := by
  obtain ⟨h1, h2, h3⟩ := h
  refine ⟨by simp [h1], by decide, ?_⟩
  rw [h3, drop_cons_getD m k hk]
  simp only [minusC, headD_drop, tail_drop, List.append_assoc, List.singleton_append]
  rw [if_pos hlt]
theorem minusAt_ge {m n : List Nat} {k : Nat} {o : List Nat} {c : Nat} (h : MinusAt m n k o c) (hk : k < m.length) (hlt : ¬ m.getD k 0 < c + n.getD k 0) :
    MinusAt m n (k + 1) (o ++ [m.getD k 0 - (c + n.getD k 0)]) 0 := by
  obtain ⟨h1, h2, h3⟩ := h
  refine ⟨by simp [h1], by decide, ?_⟩
  rw [h3, drop_cons_getD m k hk]
  simp only [minusC, headD_drop, tail_drop, List.append_assoc, List.singleton_append]
  rw [if_neg hlt]
theorem minusAt_end {m n : List Nat} {o : List Nat} {c : Nat} (h : MinusAt m n m.length o c) : (minusC m n 0).1 = o := by
  obtain ⟨h1, h2, h3⟩ := h
  rw [List.drop_length] at h3
  simp only [minusC, List.append_nil] at h3
  rw [h3]

/-! ### the text of groups -/
def pad9 (g : Nat) : List UInt8 := List.replicate (9 - (decDigits g).length) 48 ++ decDigits g
theorem nat_replicate (k : Nat) : nat (List.replicate k 48) = 0 := by
  induction k with
  | zero => rfl
  | succ k ih => rw [List.replicate_succ, nat_cons, ih]; simp
theorem nDigits_le (g k : Nat) (hk : 1 ≤ k) (h : g < 10 ^ k) : nDigits g ≤ k := by
  induction k generalizing g with
  | zero => omega
  | succ k ih =>
    by_cases h1 : g < 10
    · rw [nDigits_small h1]; omega
    · rw [nDigits_big h1]
      rw [Nat.pow_succ] at h
      have hk1 : 1 ≤ k := by
        rcases Nat.eq_zero_or_pos k with h0 | h0
        · subst h0; simp at h; omega
        · exact h0
      have := ih (g / 10) hk1 (by omega)
      omega
theorem decDigits_le9 (g : Nat) (h : g < 1000000000) : (decDigits g).length ≤ 9 := by
  rw [decDigits_length]; exact nDigits_le g 9 (by decide) (by have : (10 : Nat) ^ 9 = 1000000000 := by decide
                                                              omega)
theorem pad9_length (g : Nat) (h : g < 1000000000) : (pad9 g).length = 9 := by
  have := decDigits_le9 g h
  simp [pad9]; omega
theorem pad9_nat (g : Nat) : nat (pad9 g) = g := by unfold pad9; rw [nat_append, nat_replicate, nat_decDigits]; simp
theorem pad9_dig (g : Nat) : (pad9 g).all isDig = true := by
  unfold pad9; rw [List.all_append, decDigits_dig, Bool.and_true, List.all_eq_true]
  intro x hx
  rw [List.eq_of_mem_replicate hx]; decide
theorem decDigits_group (g q : Nat) (hg : g < 1000000000) (hq : q ≠ 0) : decDigits (g + 1000000000 * q) = decDigits q ++ pad9 g := by
  have h := digits_eq (decDigits q ++ pad9 g) (by rw [List.all_append, decDigits_dig, pad9_dig]; rfl) (by rw [head_append (decDigits_ne q)]; exact decDigits_head q hq) (by simp [decDigits_ne])
  rw [nat_append, nat_decDigits, pad9_nat, pad9_length g hg] at h
  rw [h]
  congr 1
  have : (10 : Nat) ^ 9 = 1000000000 := by decide
  rw [this]; omega
theorem gval_drop_pos {m : List Nat} (h : m.getLast? ≠ some 0) {k : Nat} (hk : k < m.length) : gval (m.drop k) ≠ 0 := by
  refine gval_pos ?_ (by intro e; have := congrArg List.length e; rw [List.length_drop] at this; simp at this; omega)
  rw [List.getLast?_drop, if_neg (by omega)]; exact h
theorem decDigits_drop {m : List Nat} (hm : Norm m) {k : Nat} (hk : k + 1 < m.length) : decDigits (gval (m.drop k)) = decDigits (gval (m.drop (k + 1))) ++ pad9 (m.getD k 0) := by
  rw [drop_cons_getD m k (by omega), gval]
  refine decDigits_group _ _ (hm.1 _ ?_) (gval_drop_pos hm.2 hk)
  rw [List.getD_eq_getElem?_getD, List.getElem?_eq_getElem (by omega)]; exact List.getElem_mem _
/-- what text returns -/
def txt (neg : Bool) (x : Nat) : List UInt8 := if x = 0 then [] else if neg = true then 45 :: decDigits x else decDigits x
theorem txt_canon (neg : Bool) (x : Nat) : txt neg x = canon (if neg = true then -(x : Int) else x) := by
  unfold txt canon canonN
  by_cases h : x = 0
  · subst h; cases neg <;> simp
  · cases neg
    · rw [if_neg h]
      simp only [Bool.false_eq_true, if_false]
      rw [if_neg (by omega), if_neg (by omega)]; simp
    · rw [if_neg h]
      simp only [if_true]
      rw [if_pos (by omega)]; simp
end Go.Proofs.YthlpfefckhdpiaaGreatDoor.Num
