/- Int Mag TimesP DivP Cal -/
import Derived.Lib.ItoaNum
import Derived.Lib.Hide
set_option maxHeartbeats 16000000
set_option maxRecDepth 100000
section
namespace Go.Proofs.YtbcebibkpfklnaaGreatDoor.Num
open Go.Lib
def isDig (c:UInt8):Bool:=decide (48≤c.toNat) && decide (c.toNat≤57)
def body (l:List UInt8):List UInt8:=if l.head? = some 45 then l.tail else l
def minus (l:List UInt8):Bool:=decide (l.head? = some 45)
def digs (l:List UInt8):List UInt8:=if (body l).all isDig=true then (body l).dropWhile (· == 48) else []
def negs (l:List UInt8):Bool:=minus l && !(digs l).isEmpty
def nat (ds:List UInt8):Nat:=ds.foldl (fun n c=>10 * n+(c.toNat - 48)) 0
def val (l:List UInt8):Int:=if negs l=true then -(nat (digs l):Int) else (nat (digs l):Int)
def canonN (n:Nat):List UInt8:=if n=0 then [] else decDigits n
def canon (z:Int):List UInt8:=if z < 0 then 45 :: decDigits z.natAbs else canonN z.toNat
theorem nat_foldl (l:List UInt8) (a:Nat):l.foldl (fun n c=>10 * n+(c.toNat - 48)) a=a * 10 ^ l.length+nat l:=by
 induction l generalizing a with
 | nil=>simp [nat]
 | cons c r ih =>
  unfold nat
  simp only [List.foldl_cons,List.length_cons]
  rw [ih,ih (10 * 0+_),Nat.pow_succ]
  simp only [Nat.mul_zero,Nat.zero_add,Nat.add_mul]
  rw [Nat.mul_assoc,Nat.mul_left_comm 10 a,Nat.mul_comm 10,Nat.add_assoc]
theorem nat_append (l m:List UInt8):nat (l ++ m)=nat l * 10 ^ m.length+nat m:=by
 conv=>lhs;unfold nat
 rw [List.foldl_append]
 exact nat_foldl m _
theorem nat_cons (c:UInt8) (r:List UInt8):nat (c :: r)=(c.toNat - 48) * 10 ^ r.length+nat r:=by
 have:=nat_append [c] r
 simpa [nat] using this
theorem nat_snoc (l:List UInt8) (c:UInt8):nat (l ++ [c])=10 * nat l+(c.toNat - 48):=by
 rw [nat_append];simp [nat];omega
theorem isDig_iff (c:UInt8):isDig c=true ↔ 48≤c.toNat∧c.toNat≤57:=by simp [isDig]
theorem nat_lt (l:List UInt8) (h:l.all isDig=true):nat l < 10 ^ l.length:=by
 induction l with
 | nil=>simp [nat]
 | cons c r ih =>
  simp only [List.all_cons,Bool.and_eq_true] at h
  have h1:=(isDig_iff c).1 h.1
  have h2:=ih h.2
  rw [nat_cons,List.length_cons,Nat.pow_succ]
  have:(c.toNat - 48) * 10 ^ r.length≤9 * 10 ^ r.length:=Nat.mul_le_mul_right _ (by omega)
  omega
theorem dig_ofNat (d:Nat) (h:d < 10):(UInt8.ofNat (48+d)).toNat=48+d:=by
 rw [UInt8.toNat_ofNat'];omega
theorem decDigits_dig (n:Nat):(decDigits n).all isDig=true:=by
 induction n using Nat.strongRecOn with
 | _ n ih =>
  rw [decDigits]
  split
  ·rename_i h
   simp [isDig];omega
  ·rename_i h
   rw [List.all_append,ih (n / 10) (by omega)]
   simp [isDig];omega
theorem nat_decDigits (n:Nat):nat (decDigits n)=n:=by
 induction n using Nat.strongRecOn with
 | _ n ih =>
  rw [decDigits]
  split
  ·rename_i h
   simp [nat];omega
  ·rename_i h
   rw [nat_snoc,ih (n / 10) (by omega),dig_ofNat (n % 10) (by omega)]
   omega
theorem decDigits_ne (n:Nat):decDigits n ≠ []:=by
 intro h
 have:=decDigits_length n
 rw [h] at this
 have:=nDigits_pos n
 simp at *
 omega
theorem head_append {l m:List UInt8} (h:l ≠ []):(l ++ m).head? = l.head? := by
 cases l with
 | nil=>exact absurd rfl h
 | cons a r=>rfl
theorem decDigits_head (n:Nat) (h:n ≠ 0):(decDigits n).head? ≠ some 48:=by
 induction n using Nat.strongRecOn with
 | _ n ih =>
  rw [decDigits]
  split
  ·rename_i h1
   intro hc
   have:=congrArg UInt8.toNat (Option.some.inj hc)
   have e:(48:UInt8).toNat=48:=rfl
   rw [dig_ofNat n h1,e] at this
   omega
  ·rename_i h1
   rw [head_append (decDigits_ne _)]
   exact ih (n / 10) (by omega) (by omega)
theorem digits_eq (l:List UInt8) (h:l.all isDig=true) (h0:l.head? ≠ some 48) (hne:l ≠ []):l=decDigits (nat l):=by
 generalize hn:l.length=k
 induction k using Nat.strongRecOn generalizing l with
 | _ k ih =>
  rcases List.eq_nil_or_concat l with rfl | ⟨r,c,rfl⟩
  ·exact absurd rfl hne
  ·rw [List.concat_eq_append] at *
   rw [List.all_append,Bool.and_eq_true] at h
   have hc:=(isDig_iff c).1 (by simpa using h.2)
   rw [nat_snoc,decDigits]
   have hcc:UInt8.ofNat (48+(c.toNat - 48))=c:=by
    rw [show 48+(c.toNat - 48)=c.toNat by omega];simp
   by_cases hr:r=[]
   ·subst hr
    rw [dif_pos (by simp [nat];omega)]
    simp [nat,hcc]
   ·have hr0:r.head? ≠ some 48:=by rwa [head_append hr] at h0
    have e:=ih r.length (by simp at hn;omega) r h.1 hr0 hr rfl
    have hpos:1≤nat r:=by
     cases r with
     | nil=>exact absurd rfl hr
     | cons d r' =>
      rw [nat_cons]
      simp only [List.all_cons,Bool.and_eq_true] at h
      have hd:=(isDig_iff d).1 h.1.1
      have:d.toNat ≠ 48:=by
       intro h48
       apply hr0
       simp
       exact UInt8.toNat_inj.1 h48
      have hp:1≤10 ^ r'.length:=Nat.one_le_pow _ _ (by decide)
      have:1 * 1≤(d.toNat - 48) * 10 ^ r'.length:=Nat.mul_le_mul (by omega) hp
      omega
    rw [dif_neg (by omega)]
    rw [show (10 * nat r+(c.toNat - 48)) / 10=nat r by omega,show (10 * nat r+(c.toNat - 48)) % 10=c.toNat - 48 by omega,hcc,← e]
theorem dropWhile_head (l:List UInt8):(l.dropWhile (· == 48)).head? ≠ some 48:=by
 induction l with
 | nil=>simp
 | cons c r ih =>
  rw [List.dropWhile_cons]
  split
  ·exact ih
  ·rename_i h
   simp at h ⊢
   exact h
theorem all_dropWhile {p:UInt8→Bool} (l:List UInt8) (q:UInt8→Bool) (h:l.all p=true):(l.dropWhile q).all p=true:=by
 rw [List.all_eq_true] at *
 intro x hx
 exact h x ((List.dropWhile_sublist q).mem hx)
theorem digs_dig (l:List UInt8):(digs l).all isDig=true:=by
 unfold digs
 split
 ·rename_i h;exact all_dropWhile _ _ h
 ·rfl
theorem digs_head (l:List UInt8):(digs l).head? ≠ some 48:=by
 unfold digs
 split
 ·exact dropWhile_head _
 ·simp
theorem nat_pos_of (l:List UInt8) (h:l.all isDig=true) (h0:l.head? ≠ some 48) (hne:l ≠ []):nat l ≠ 0:=by
 intro hz
 have e:=digits_eq l h h0 hne
 rw [hz] at e
 rw [e] at h0
 exact h0 (by rw [decDigits];simp)
theorem digs_nil_iff (l:List UInt8):digs l=[] ↔ nat (digs l)=0:=by
 constructor
 ·intro h;rw [h];rfl
 ·intro h;by_cases hd:digs l=[]
  ·exact hd
  ·exact absurd h (nat_pos_of _ (digs_dig l) (digs_head l) hd)
theorem dropWhile_none (l:List UInt8) (h:l.head? ≠ some 48):l.dropWhile (· == 48)=l:=by
 cases l with
 | nil=>rfl
 | cons c r =>
  rw [List.dropWhile_cons,if_neg]
  simp at h ⊢
  exact h
theorem canonN_dig (n:Nat):(canonN n).all isDig=true:=by
 unfold canonN;split
 ·rfl
 ·exact decDigits_dig n
theorem canonN_head (n:Nat):(canonN n).head? ≠ some 48:=by
 unfold canonN;split
 ·simp
 ·rename_i h;exact decDigits_head n h
theorem canonN_head' (n:Nat):(canonN n).head? ≠ some 45:=by
 intro h
 have:=canonN_dig n
 cases hc:canonN n with
 | nil=>rw [hc] at h;simp at h
 | cons c r =>
  rw [hc] at h this
  simp at h this
  subst h
  have:=this.1
  simp [isDig] at this
theorem nat_canonN (n:Nat):nat (canonN n)=n:=by
 unfold canonN;split
 ·rename_i h;rw [h];rfl
 ·exact nat_decDigits n
theorem body_canonN (n:Nat):body (canonN n)=canonN n:=by unfold body;rw [if_neg (canonN_head' n)]
theorem digs_canonN' (n:Nat):digs (canonN n)=canonN n:=by
 unfold digs
 rw [body_canonN,if_pos (canonN_dig n),dropWhile_none _ (canonN_head n)]
theorem val_canonN (n:Nat):val (canonN n)=n:=by
 have hm:minus (canonN n)=false:=by simp [minus];exact canonN_head' n
 unfold val negs
 rw [digs_canonN',nat_canonN,hm];simp
theorem val_canon (z:Int):val (canon z)=z:=by
 unfold canon
 split
 ·rename_i h
  have hb:body (45 :: decDigits z.natAbs)=decDigits z.natAbs:=by simp [body]
  have hd:digs (45 :: decDigits z.natAbs)=decDigits z.natAbs:=by
   unfold digs
   rw [hb,if_pos (decDigits_dig _),dropWhile_none _ (decDigits_head _ (by omega))]
  have hn:negs (45 :: decDigits z.natAbs)=true:=by
   unfold negs;rw [hd];simp [minus,decDigits_ne]
  unfold val
  rw [if_pos hn,hd,nat_decDigits]
  omega
 ·rename_i h
  rw [val_canonN];omega
theorem canon_zero:canon 0=[]:=by simp [canon,canonN]
end Go.Proofs.YtbcebibkpfklnaaGreatDoor.Num
end
section
namespace Go.Proofs.YtbcebibkpfklnaaGreatDoor.Num
open Go.Lib
theorem snoc_of {α:Type} {m:List α} (h:m ≠ []):∃ r c,m=r ++ [c]:=⟨m.dropLast,m.getLast h,(List.dropLast_concat_getLast h).symm⟩
def groupsOf (n:Nat):List Nat:=if h:n=0 then [] else n % 1000000000 :: groupsOf (n / 1000000000)
termination_by n
decreasing_by omega
def gval:List Nat→Nat
 | []=>0
 | g :: r=>g+1000000000 * gval r
def Norm (m:List Nat):Prop:=(∀ g∈m,g < 1000000000)∧m.getLast? ≠ some 0
theorem groupsOf_zero:groupsOf 0=[]:=by rw [groupsOf];simp
theorem groupsOf_pos {n:Nat} (h:n ≠ 0):groupsOf n=n % 1000000000 :: groupsOf (n / 1000000000):=by rw [groupsOf,dif_neg h]
theorem groupsOf_nil_iff (n:Nat):groupsOf n=[] ↔ n=0:=by
 constructor
 ·intro h
  by_cases h0:n=0
  ·exact h0
  ·rw [groupsOf_pos h0] at h;cases h
 ·rintro rfl;exact groupsOf_zero
theorem gval_groupsOf (n:Nat):gval (groupsOf n)=n:=by
 induction n using Nat.strongRecOn with
 | _ n ih =>
  by_cases h:n=0
  ·subst h;rw [groupsOf_zero];rfl
  ·rw [groupsOf_pos h,gval,ih (n / 1000000000) (by omega)];omega
theorem groupsOf_lt (n:Nat):∀ g∈groupsOf n,g < 1000000000:=by
 induction n using Nat.strongRecOn with
 | _ n ih =>
  intro g hg
  by_cases h:n=0
  ·subst h;rw [groupsOf_zero] at hg;cases hg
  ·rw [groupsOf_pos h] at hg
   cases hg with
   | head=>omega
   | tail _ hm=>exact ih (n / 1000000000) (by omega) g hm
theorem groupsOf_last (n:Nat):(groupsOf n).getLast? ≠ some 0:=by
 induction n using Nat.strongRecOn with
 | _ n ih =>
  by_cases h:n=0
  ·subst h;rw [groupsOf_zero];simp
  ·rw [groupsOf_pos h]
   by_cases h1:n / 1000000000=0
   ·rw [h1,groupsOf_zero];simp;omega
   ·have hne:groupsOf (n / 1000000000) ≠ []:=by rw [Ne,groupsOf_nil_iff];exact h1
    rw [List.getLast?_cons_of_ne_nil hne]
    exact ih _ (by omega)
theorem groupsOf_norm (n:Nat):Norm (groupsOf n):=⟨groupsOf_lt n,groupsOf_last n⟩
theorem getLast?_cons_ne {g:Nat} {r:List Nat} (h:r ≠ []):(g :: r).getLast? = r.getLast? := by
 cases r with
 | nil=>exact absurd rfl h
 | cons a b=>simp [List.getLast?_cons_cons]
theorem gval_pos {m:List Nat} (h:m.getLast? ≠ some 0) (hne:m ≠ []):gval m ≠ 0:=by
 induction m with
 | nil=>exact absurd rfl hne
 | cons g r ih =>
  unfold gval
  by_cases hr:r=[]
  ·subst hr;simp at h;omega
  ·rw [getLast?_cons_ne hr] at h
   have:=ih h hr
   omega
theorem norm_eq {m:List Nat} (h:Norm m):m=groupsOf (gval m):=by
 induction m with
 | nil=>rw [gval,groupsOf_zero]
 | cons g r ih =>
  have hg:g < 1000000000:=h.1 g (List.mem_cons_self ..)
  have hp:=gval_pos h.2 (by simp)
  rw [groupsOf_pos hp,gval]
  have hr:Norm r:=by
   refine ⟨fun x hx=>h.1 x (List.mem_cons_of_mem _ hx),?_⟩
   by_cases hr:r=[]
   ·subst hr;simp
   ·have:=h.2;rwa [getLast?_cons_ne hr] at this
  rw [show (g+1000000000 * gval r) % 1000000000=g by omega,show (g+1000000000 * gval r) / 1000000000=gval r by omega,← ih hr]
theorem gval_append (a b:List Nat):gval (a ++ b)=gval a+1000000000 ^ a.length * gval b:=by
 induction a with
 | nil=>simp [gval]
 | cons g r ih =>
  simp only [List.cons_append,gval,ih,List.length_cons,Nat.pow_succ,Nat.mul_add]
  rw [Nat.mul_comm (1000000000 ^ r.length) 1000000000,Nat.mul_assoc,Nat.add_assoc]
theorem gval_lt {m:List Nat} (h:∀ g∈m,g < 1000000000):gval m < 1000000000 ^ m.length:=by
 induction m with
 | nil=>simp [gval]
 | cons g r ih =>
  have h1:=h g (List.mem_cons_self ..)
  have h2:=ih (fun x hx=>h x (List.mem_cons_of_mem _ hx))
  rw [gval,List.length_cons,Nat.pow_succ];omega
theorem len_lt {m:List Nat} (h:Norm m) (hne:m ≠ []):1000000000 ^ (m.length - 1)≤gval m:=by
 obtain ⟨r,c,rfl⟩:∃ r c,m=r ++ [c]:=snoc_of hne
 rw [gval_append]
 simp only [List.length_append,List.length_singleton,Nat.add_sub_cancel,gval,Nat.mul_zero,Nat.add_zero]
 have hc:c ≠ 0:=by have:=h.2;simpa using this
 have:1000000000 ^ r.length * 1≤1000000000 ^ r.length * c:=Nat.mul_le_mul_left _ (by omega)
 omega
def cutZ (m:List Nat):List Nat:=(m.reverse.dropWhile (· == 0)).reverse
theorem cutZ_snoc_zero (m:List Nat):cutZ (m ++ [0])=cutZ m:=by simp [cutZ]
theorem cutZ_snoc_pos (m:List Nat) (c:Nat) (h:c ≠ 0):cutZ (m ++ [c])=m ++ [c]:=by
 simp [cutZ,h]
theorem cutZ_spec (m:List Nat):gval (cutZ m)=gval m∧(cutZ m).getLast? ≠ some 0∧∀ g∈cutZ m,g∈m:=by
 generalize hk:m.length=k
 induction k generalizing m with
 | zero=>cases m with
  | nil=>simp [cutZ]
  | cons a b=>simp at hk
 | succ k ih =>
  obtain ⟨r,c,rfl⟩:∃ r c,m=r ++ [c]:=snoc_of (by intro h;rw [h] at hk;simp at hk)
  by_cases hc:c=0
  ·subst hc
   rw [cutZ_snoc_zero]
   obtain ⟨a,b,d⟩:=ih r (by simp at hk;omega)
   refine ⟨by rw [a,gval_append];simp [gval],b,fun g hg => ?_⟩
   exact List.mem_append_left _ (d g hg)
  ·rw [cutZ_snoc_pos _ _ hc]
   exact ⟨rfl,by simpa using hc,fun g hg=>hg⟩
theorem cutZ_eq {m:List Nat} (h:∀ g∈m,g < 1000000000):cutZ m=groupsOf (gval m):=by
 obtain ⟨a,b,d⟩:=cutZ_spec m
 rw [← a]
 exact norm_eq ⟨fun g hg=>h g (d g hg),b⟩
theorem cutZ_norm {m:List Nat} (h:m.getLast? ≠ some 0):cutZ m=m:=by
 by_cases hm:m=[]
 ·subst hm;rfl
 ·obtain ⟨r,c,rfl⟩:∃ r c,m=r ++ [c]:=snoc_of hm
  exact cutZ_snoc_pos _ _ (by simpa using h)
theorem nat_take_drop (l:List UInt8) (k:Nat):nat l=nat (l.take k) * 10 ^ (l.length - k)+nat (l.drop k):=by
 conv=>lhs;rw [← List.take_append_drop k l]
 rw [nat_append];simp
theorem groups_step {ds:List UInt8} (hd:ds.all isDig=true) {e:Nat} (he:e≤ds.length) (h0:0 < e) {m:List Nat} (hm:∀ g∈m,g < 1000000000)
  (hv:gval m+1000000000 ^ m.length * nat (ds.take e)=nat ds) :
  (∀ g∈m ++ [nat ((ds.drop (e - 9)).take (e - (e - 9)))],g < 1000000000) ∧
  gval (m ++ [nat ((ds.drop (e - 9)).take (e - (e - 9)))])+1000000000 ^ (m ++ [nat ((ds.drop (e - 9)).take (e - (e - 9)))]).length * nat (ds.take (e - 9))=nat ds:=by
 have hlen:((ds.drop (e - 9)).take (e - (e - 9))).length=e - (e - 9):=by
  rw [List.length_take,List.length_drop];omega
 have hall:((ds.drop (e - 9)).take (e - (e - 9))).all isDig=true:=by
  rw [List.all_eq_true] at *
  exact fun x hx=>hd x (List.mem_of_mem_drop (List.mem_of_mem_take hx))
 have hlt:=nat_lt _ hall
 rw [hlen] at hlt
 constructor
 ·intro g hg
  rw [List.mem_append] at hg
  rcases hg with hg | hg
  ·exact hm g hg
  ·have:=List.mem_singleton.1 hg
   subst this
   have:10 ^ (e - (e - 9))≤10 ^ 9:=Nat.pow_le_pow_right (by decide) (by omega)
   have e9:10 ^ 9=1000000000:=by decide
   omega
 ·have e1:=nat_take_drop (ds.take e) (e - 9)
  rw [List.take_take,List.length_take,Nat.min_eq_left (by omega:e - 9≤e),Nat.min_eq_left he,List.drop_take] at e1
  rw [gval_append,List.length_append,List.length_singleton,← hv,e1]
  simp only [gval,Nat.mul_zero,Nat.add_zero]
  rw [Nat.pow_succ]
  by_cases h9:9≤e
  ·rw [show e - (e - 9)=9 by omega]
   have e9:10 ^ 9=1000000000:=by decide
   rw [e9,Nat.mul_add,Nat.add_assoc,Nat.mul_comm (nat (ds.take (e - 9))) 1000000000,← Nat.mul_assoc,Nat.add_comm (_ * nat _) (_ * nat _)]
  ·rw [show e - 9=0 by omega]
   simp [nat]
theorem groups_len {ds:List UInt8} (hd:ds.all isDig=true) (h0:ds.head? ≠ some 48) {m:List Nat} (hm:∀ g∈m,g < 1000000000) (hv:gval m=nat ds) (hl:m.length * 9≤ds.length+8):m=groupsOf (nat ds):=by
 rw [← hv]
 refine norm_eq ⟨hm,?_⟩
 intro hz
 have hne:m ≠ []:=by intro h;rw [h] at hz;simp at hz
 obtain ⟨r,c,rfl⟩:∃ r c,m=r ++ [c]:=snoc_of hne
 simp at hz
 subst hz
 have hg:gval r=nat ds:=by rw [← hv,gval_append];simp [gval]
 have hr:=gval_lt (m:=r) (fun g hg=>hm g (List.mem_append_left _ hg))
 have hdn:ds ≠ []:=by intro h;rw [h] at hl;simp at hl;omega
 have e:=digits_eq ds hd h0 hdn
 have hlow:10 ^ (ds.length - 1)≤nat ds:=by
  cases ds with
  | nil=>exact absurd rfl hdn
  | cons d r' =>
   rw [nat_cons]
   simp only [List.all_cons,Bool.and_eq_true] at hd
   have h1:=(isDig_iff d).1 hd.1
   have h2:d.toNat ≠ 48:=by
    intro h48
    apply h0
    simp
    exact UInt8.toNat_inj.1 h48
   have:1 * 10 ^ r'.length≤(d.toNat - 48) * 10 ^ r'.length:=Nat.mul_le_mul_right _ (by omega)
   simp
   omega
 have e9:(1000000000:Nat)=10 ^ 9:=by decide
 rw [e9,← Nat.pow_mul] at hr
 have:10 ^ (9 * r.length)≤10 ^ (ds.length - 1):=Nat.pow_le_pow_right (by decide) (by simp at hl;omega)
 omega
theorem gval_split (m:List Nat) (j:Nat) (h:j < m.length):gval m=gval (m.take j)+1000000000 ^ j * (m.getD j 0+1000000000 * gval (m.drop (j+1))):=by
 have e:m=m.take j ++ (m.getD j 0 :: m.drop (j+1)):=by
  rw [List.getD_eq_getElem?_getD,List.getElem?_eq_getElem h,Option.getD_some]
  rw [← List.drop_eq_getElem_cons h,List.take_append_drop]
 conv=>lhs;rw [e]
 rw [gval_append,List.length_take,Nat.min_eq_left (by omega),gval]
theorem top_lt {m n:List Nat} (hm:∀ g∈m,g < 1000000000) (hl:m.length=n.length) {j:Nat} (hj:j < m.length) (hd:m.drop (j+1)=n.drop (j+1)) (hlt:m.getD j 0 < n.getD j 0):gval m < gval n:=by
 rw [gval_split m j hj,gval_split n j (by omega),hd]
 have h1:=gval_lt (m:=m.take j) (fun g hg=>hm g (List.mem_of_mem_take hg))
 rw [List.length_take,Nat.min_eq_left (by omega)] at h1
 generalize 1000000000 * gval (n.drop (j+1))=t
 have h2:1000000000 ^ j * (m.getD j 0+t+1)≤1000000000 ^ j * (n.getD j 0+t):=Nat.mul_le_mul_left _ (by omega)
 rw [Nat.mul_add,Nat.mul_one] at h2
 omega
def cmpV (m n:List Nat):Int :=
 if m.length=n.length then (if gval m < gval n then -1 else if gval n < gval m then 1 else 0) else (m.length:Int) - n.length
theorem cmpV_lt {m n:List Nat} (h:m.length=n.length) (hlt:gval m < gval n):cmpV m n = -1:=by unfold cmpV;rw [if_pos h,if_pos hlt]
theorem cmpV_gt {m n:List Nat} (h:m.length=n.length) (hlt:gval n < gval m):cmpV m n=1:=by unfold cmpV;rw [if_pos h,if_neg (by omega),if_pos hlt]
theorem cmpV_eq {m n:List Nat} (h:m.length=n.length) (he:gval m=gval n):cmpV m n=0:=by unfold cmpV;rw [if_pos h,if_neg (by omega),if_neg (by omega)]
theorem cmpV_len {m n:List Nat} (h:m.length ≠ n.length):cmpV m n=(m.length:Int) - n.length:=by unfold cmpV;rw [if_neg h]
theorem len_le_of_lt {x y:Nat} (h:x≤y):(groupsOf x).length≤(groupsOf y).length:=by
 rcases Nat.lt_or_ge (groupsOf y).length (groupsOf x).length with g | g
 ·have hne:groupsOf x ≠ []:=by intro e;rw [e] at g;simp at g
  have a:=len_lt (groupsOf_norm x) hne
  have b:=gval_lt (groupsOf_lt y)
  rw [gval_groupsOf] at a b
  have c:1000000000 ^ (groupsOf y).length≤1000000000 ^ ((groupsOf x).length - 1):=Nat.pow_le_pow_right (by decide) (by omega)
  omega
 ·exact g
theorem cmpV_groups (x y:Nat):(x < y→cmpV (groupsOf x) (groupsOf y) < 0)∧(x=y→cmpV (groupsOf x) (groupsOf y)=0)∧(y < x→0 < cmpV (groupsOf x) (groupsOf y)):=by
 refine ⟨fun h => ?_,fun h => ?_,fun h => ?_⟩
 ·have:=len_le_of_lt (Nat.le_of_lt h)
  by_cases he:(groupsOf x).length=(groupsOf y).length
  ·rw [cmpV_lt he (by rw [gval_groupsOf,gval_groupsOf];exact h)];decide
  ·rw [cmpV_len he];omega
 ·subst h;exact cmpV_eq rfl rfl
 ·have:=len_le_of_lt (Nat.le_of_lt h)
  by_cases he:(groupsOf x).length=(groupsOf y).length
  ·rw [cmpV_gt he (by rw [gval_groupsOf,gval_groupsOf];exact h)];decide
  ·rw [cmpV_len he];omega
theorem cmpV_lt_iff (x y:Nat):cmpV (groupsOf x) (groupsOf y) < 0 ↔ x < y:=by
 obtain ⟨a,b,c⟩:=cmpV_groups x y
 constructor
 ·intro h
  rcases Nat.lt_trichotomy x y with g | g | g
  ·exact g
  ·have:=b g;omega
  ·have:=c g;omega
 ·exact a
def plusC (m n:List Nat) (c:Nat):List Nat × Nat :=
 match m with
 | []=>([],c)
 | g :: r=>let s:=g+n.headD 0+c;let t:=plusC r n.tail (s / 1000000000);(s % 1000000000 :: t.1,t.2)
theorem plusC_val (m n:List Nat) (c:Nat) (h:n.length≤m.length):gval (plusC m n c).1+1000000000 ^ m.length * (plusC m n c).2=gval m+gval n+c:=by
 induction m generalizing n c with
 | nil =>
  have:n=[]:=List.eq_nil_of_length_eq_zero (by simpa using h)
  subst this;simp [plusC,gval]
 | cons g r ih =>
  have e:=ih n.tail ((g+n.headD 0+c) / 1000000000) (by simp at h ⊢;omega)
  have en:gval n=n.headD 0+1000000000 * gval n.tail:=by cases n <;> simp [gval]
  simp only [plusC,gval,List.length_cons,Nat.pow_succ]
  rw [en]
  generalize (plusC r n.tail ((g+n.headD 0+c) / 1000000000)).2=q at *
  generalize gval (plusC r n.tail ((g+n.headD 0+c) / 1000000000)).1=p at *
  rw [Nat.mul_comm (1000000000 ^ r.length) 1000000000,Nat.mul_assoc]
  omega
theorem plusC_len (m n:List Nat) (c:Nat):(plusC m n c).1.length=m.length:=by
 induction m generalizing n c with
 | nil=>rfl
 | cons g r ih=>simp [plusC,ih]
theorem plusC_lt (m n:List Nat) (c:Nat):∀ g∈(plusC m n c).1,g < 1000000000:=by
 induction m generalizing n c with
 | nil=>simp [plusC]
 | cons g r ih =>
  intro x hx
  simp only [plusC,List.mem_cons] at hx
  rcases hx with rfl | hx
  ·exact Nat.mod_lt _ (by decide)
  ·exact ih _ _ x hx
theorem plusC_carry (m n:List Nat) (c:Nat) (hm:∀ g∈m,g < 1000000000) (hn:∀ g∈n,g < 1000000000) (hc:c≤1):(plusC m n c).2≤1:=by
 induction m generalizing n c with
 | nil=>exact hc
 | cons g r ih =>
  have h1:=hm g (List.mem_cons_self ..)
  have h2:n.headD 0 < 1000000000:=by cases n with
   | nil=>decide
   | cons a b=>exact hn a (List.mem_cons_self ..)
  exact ih _ _ (fun x hx=>hm x (List.mem_cons_of_mem _ hx)) (fun x hx=>hn x (List.mem_of_mem_tail hx)) (by omega)
def plusG (m n:List Nat):List Nat:=if (plusC m n 0).2=0 then (plusC m n 0).1 else (plusC m n 0).1 ++ [(plusC m n 0).2]
theorem plusG_eq {m n:List Nat} (hm:Norm m) (hn:Norm n) (h:n.length≤m.length):plusG m n=groupsOf (gval m+gval n):=by
 have hv:=plusC_val m n 0 h
 have hl:=plusC_len m n 0
 have hlt:=plusC_lt m n 0
 have hcy:=plusC_carry m n 0 hm.1 hn.1 (by decide)
 unfold plusG
 by_cases hc:(plusC m n 0).2=0
 ·rw [if_pos hc]
  rw [hc] at hv
  rw [show gval m+gval n=gval (plusC m n 0).1 by omega]
  refine norm_eq ⟨hlt,?_⟩
  intro hz
  have hne:(plusC m n 0).1 ≠ []:=by intro e;rw [e] at hz;simp at hz
  have hmne:m ≠ []:=by intro e;subst e;exact hne rfl
  have b:=len_lt hm hmne
  obtain ⟨r,c,hrc⟩:=snoc_of hne
  rw [hrc] at hz hl hv hlt
  simp at hz
  subst hz
  have g1:=gval_lt (m:=r) (fun g hg=>hlt g (List.mem_append_left _ hg))
  rw [gval_append] at hv
  simp [gval] at hv hl
  rw [← hl,Nat.add_sub_cancel] at b
  omega
 ·rw [if_neg hc]
  have e1:gval ((plusC m n 0).1 ++ [(plusC m n 0).2])=gval m+gval n:=by
   rw [gval_append,hl];simp [gval];omega
  rw [← e1]
  refine norm_eq ⟨?_,by simpa using hc⟩
  intro g hg
  rw [List.mem_append] at hg
  rcases hg with hg | hg
  ·exact hlt g hg
  ·have:=List.mem_singleton.1 hg;omega
def minusC (m n:List Nat) (c:Nat):List Nat × Nat :=
 match m with
 | []=>([],c)
 | g :: r=>let s:=c+n.headD 0;if g < s then (let t:=minusC r n.tail 1;((g+1000000000 - s) :: t.1,t.2)) else (let t:=minusC r n.tail 0;((g - s) :: t.1,t.2))
theorem minusC_val (m n:List Nat) (c:Nat) (h:n.length≤m.length) (hn:∀ g∈n,g < 1000000000) (hc:c≤1):gval (minusC m n c).1+gval n+c=gval m+1000000000 ^ m.length * (minusC m n c).2:=by
 induction m generalizing n c with
 | nil =>
  have:n=[]:=List.eq_nil_of_length_eq_zero (by simpa using h)
  subst this;simp [minusC,gval]
 | cons g r ih =>
  have h2:n.headD 0 < 1000000000:=by cases n with
   | nil=>decide
   | cons a b=>exact hn a (List.mem_cons_self ..)
  have en:gval n=n.headD 0+1000000000 * gval n.tail:=by cases n <;> simp [gval]
  have hnt:∀ g∈n.tail,g < 1000000000:=fun x hx=>hn x (List.mem_of_mem_tail hx)
  simp only [minusC]
  split
  ·have e:=ih n.tail 1 (by simp at h ⊢;omega) hnt (by decide)
   simp only [gval,List.length_cons,Nat.pow_succ]
   rw [en]
   generalize (minusC r n.tail 1).2=q at *
   generalize gval (minusC r n.tail 1).1=p at *
   rw [Nat.mul_comm (1000000000 ^ r.length) 1000000000,Nat.mul_assoc]
   omega
  ·have e:=ih n.tail 0 (by simp at h ⊢;omega) hnt (by decide)
   simp only [gval,List.length_cons,Nat.pow_succ]
   rw [en]
   generalize (minusC r n.tail 0).2=q at *
   generalize gval (minusC r n.tail 0).1=p at *
   rw [Nat.mul_comm (1000000000 ^ r.length) 1000000000,Nat.mul_assoc]
   omega
theorem minusC_len (m n:List Nat) (c:Nat):(minusC m n c).1.length=m.length:=by
 induction m generalizing n c with
 | nil=>rfl
 | cons g r ih=>simp only [minusC];split <;> simp [ih]
theorem minusC_lt (m n:List Nat) (c:Nat) (hm:∀ g∈m,g < 1000000000):∀ g∈(minusC m n c).1,g < 1000000000:=by
 induction m generalizing n c with
 | nil=>simp [minusC]
 | cons g r ih =>
  have h1:=hm g (List.mem_cons_self ..)
  intro x hx
  simp only [minusC] at hx
  split at hx
  all_goals
   rcases List.mem_cons.1 hx with rfl | hx
   ·omega
   ·exact ih _ _ (fun x hx=>hm x (List.mem_cons_of_mem _ hx)) x hx
theorem minusC_carry (m n:List Nat) (c:Nat) (hc:c≤1):(minusC m n c).2≤1:=by
 induction m generalizing n c with
 | nil=>exact hc
 | cons g r ih =>
  simp only [minusC]
  split
  ·exact ih _ _ (by decide)
  ·exact ih _ _ (by decide)
theorem minusG_eq {m n:List Nat} (hm:Norm m) (hn:Norm n) (h:gval n≤gval m) (hl:n.length≤m.length):cutZ (minusC m n 0).1=groupsOf (gval m - gval n):=by
 have hv:=minusC_val m n 0 hl hn.1 (by decide)
 have hlt:=minusC_lt m n 0 hm.1
 have hlen:=minusC_len m n 0
 have hc:=minusC_carry m n 0 (by decide)
 have g1:=gval_lt hlt
 rw [hlen] at g1
 rw [cutZ_eq hlt]
 congr 1
 have:(minusC m n 0).2=0:=by
  rcases Nat.eq_zero_or_pos (minusC m n 0).2 with h0 | h0
  ·exact h0
  ·have e1:(minusC m n 0).2=1:=by omega
   rw [e1] at hv
   omega
 rw [this] at hv
 omega
theorem drop_cons_getD (m:List Nat) (k:Nat) (h:k < m.length):m.drop k=m.getD k 0 :: m.drop (k+1):=by
 rw [List.drop_eq_getElem_cons h,List.getD_eq_getElem?_getD,List.getElem?_eq_getElem h];rfl
theorem headD_drop (n:List Nat) (k:Nat):(n.drop k).headD 0=n.getD k 0:=by
 rcases Nat.lt_or_ge k n.length with h | h
 ·rw [drop_cons_getD n k h];rfl
 ·rw [List.drop_eq_nil_of_le h,List.getD_eq_getElem?_getD,List.getElem?_eq_none h];rfl
theorem tail_drop (n:List Nat) (k:Nat):(n.drop k).tail=n.drop (k+1):=by simp
def PlusAt (m n:List Nat) (k:Nat) (o:List Nat) (c:Nat):Prop :=
 o.length=k∧c≤1∧plusC m n 0=(o ++ (plusC (m.drop k) (n.drop k) c).1,(plusC (m.drop k) (n.drop k) c).2)
theorem plusAt_zero (m n:List Nat):PlusAt m n 0 [] 0:=⟨rfl,by decide,rfl⟩
theorem plusAt_succ {m n:List Nat} {k:Nat} {o:List Nat} {c:Nat} (h:PlusAt m n k o c) (hk:k < m.length) (hm:∀ g∈m,g < 1000000000) (hn:∀ g∈n,g < 1000000000) :
  PlusAt m n (k+1) (o ++ [(m.getD k 0+n.getD k 0+c) % 1000000000]) ((m.getD k 0+n.getD k 0+c) / 1000000000):=by
 obtain ⟨h1,h2,h3⟩:=h
 have hg:m.getD k 0 < 1000000000:=hm _ (by rw [List.getD_eq_getElem?_getD,List.getElem?_eq_getElem hk];exact List.getElem_mem hk)
 have hg':n.getD k 0 < 1000000000:=by
  rcases Nat.lt_or_ge k n.length with h | h
  ·exact hn _ (by rw [List.getD_eq_getElem?_getD,List.getElem?_eq_getElem h];exact List.getElem_mem h)
  ·rw [List.getD_eq_getElem?_getD,List.getElem?_eq_none h];decide
 refine ⟨by simp [h1],by omega,?_⟩
 rw [h3,drop_cons_getD m k hk]
 simp only [plusC,headD_drop,tail_drop,List.append_assoc,List.singleton_append]
theorem plusAt_end {m n:List Nat} {o:List Nat} {c:Nat} (h:PlusAt m n m.length o c):plusG m n=if c=0 then o else o ++ [c]:=by
 obtain ⟨h1,h2,h3⟩:=h
 rw [List.drop_length] at h3
 simp only [plusC,List.append_nil] at h3
 unfold plusG;rw [h3]
def MinusAt (m n:List Nat) (k:Nat) (o:List Nat) (c:Nat):Prop :=
 o.length=k∧c≤1∧minusC m n 0=(o ++ (minusC (m.drop k) (n.drop k) c).1,(minusC (m.drop k) (n.drop k) c).2)
theorem minusAt_zero (m n:List Nat):MinusAt m n 0 [] 0:=⟨rfl,by decide,rfl⟩
theorem minusAt_lt {m n:List Nat} {k:Nat} {o:List Nat} {c:Nat} (h:MinusAt m n k o c) (hk:k < m.length) (hlt:m.getD k 0 < c+n.getD k 0) :
  MinusAt m n (k+1) (o ++ [m.getD k 0+1000000000 - (c+n.getD k 0)]) 1:=by
 obtain ⟨h1,h2,h3⟩:=h
 refine ⟨by simp [h1],by decide,?_⟩
 rw [h3,drop_cons_getD m k hk]
 simp only [minusC,headD_drop,tail_drop,List.append_assoc,List.singleton_append]
 rw [if_pos hlt]
theorem minusAt_ge {m n:List Nat} {k:Nat} {o:List Nat} {c:Nat} (h:MinusAt m n k o c) (hk:k < m.length) (hlt:¬ m.getD k 0 < c+n.getD k 0) :
  MinusAt m n (k+1) (o ++ [m.getD k 0 - (c+n.getD k 0)]) 0:=by
 obtain ⟨h1,h2,h3⟩:=h
 refine ⟨by simp [h1],by decide,?_⟩
 rw [h3,drop_cons_getD m k hk]
 simp only [minusC,headD_drop,tail_drop,List.append_assoc,List.singleton_append]
 rw [if_neg hlt]
theorem minusAt_end {m n:List Nat} {o:List Nat} {c:Nat} (h:MinusAt m n m.length o c):(minusC m n 0).1=o:=by
 obtain ⟨h1,h2,h3⟩:=h
 rw [List.drop_length] at h3
 simp only [minusC,List.append_nil] at h3
 rw [h3]
def pad9 (g:Nat):List UInt8:=List.replicate (9 - (decDigits g).length) 48 ++ decDigits g
theorem nat_replicate (k:Nat):nat (List.replicate k 48)=0:=by
 induction k with
 | zero=>rfl
 | succ k ih=>rw [List.replicate_succ,nat_cons,ih];simp
theorem nDigits_le (g k:Nat) (hk:1≤k) (h:g < 10 ^ k):nDigits g≤k:=by
 induction k generalizing g with
 | zero=>omega
 | succ k ih =>
  by_cases h1:g < 10
  ·rw [nDigits_small h1];omega
  ·rw [nDigits_big h1]
   rw [Nat.pow_succ] at h
   have hk1:1≤k:=by
    rcases Nat.eq_zero_or_pos k with h0 | h0
    ·subst h0;simp at h;omega
    ·exact h0
   have:=ih (g / 10) hk1 (by omega)
   omega
theorem decDigits_le9 (g:Nat) (h:g < 1000000000):(decDigits g).length≤9:=by
 rw [decDigits_length];exact nDigits_le g 9 (by decide) (by have:(10:Nat) ^ 9=1000000000:=(by decide);omega)
theorem pad9_length (g:Nat) (h:g < 1000000000):(pad9 g).length=9:=by
 have:=decDigits_le9 g h
 simp [pad9];omega
theorem pad9_nat (g:Nat):nat (pad9 g)=g:=by unfold pad9;rw [nat_append,nat_replicate,nat_decDigits];simp
theorem pad9_dig (g:Nat):(pad9 g).all isDig=true:=by
 unfold pad9;rw [List.all_append,decDigits_dig,Bool.and_true,List.all_eq_true]
 intro x hx
 rw [List.eq_of_mem_replicate hx];decide
theorem decDigits_group (g q:Nat) (hg:g < 1000000000) (hq:q ≠ 0):decDigits (g+1000000000 * q)=decDigits q ++ pad9 g:=by
 have h:=digits_eq (decDigits q ++ pad9 g) (by rw [List.all_append,decDigits_dig,pad9_dig];rfl) (by rw [head_append (decDigits_ne q)];exact decDigits_head q hq) (by simp [decDigits_ne])
 rw [nat_append,nat_decDigits,pad9_nat,pad9_length g hg] at h
 rw [h]
 congr 1
 have:(10:Nat) ^ 9=1000000000:=by decide
 rw [this];omega
theorem gval_drop_pos {m:List Nat} (h:m.getLast? ≠ some 0) {k:Nat} (hk:k < m.length):gval (m.drop k) ≠ 0:=by
 refine gval_pos ?_ (by intro e;have:=congrArg List.length e;rw [List.length_drop] at this;simp at this;omega)
 rw [List.getLast?_drop,if_neg (by omega)];exact h
theorem decDigits_drop {m:List Nat} (hm:Norm m) {k:Nat} (hk:k+1 < m.length):decDigits (gval (m.drop k))=decDigits (gval (m.drop (k+1))) ++ pad9 (m.getD k 0):=by
 rw [drop_cons_getD m k (by omega),gval]
 refine decDigits_group _ _ (hm.1 _ ?_) (gval_drop_pos hm.2 hk)
 rw [List.getD_eq_getElem?_getD,List.getElem?_eq_getElem (by omega)];exact List.getElem_mem _
def txt (neg:Bool) (x:Nat):List UInt8:=if x=0 then [] else if neg=true then 45 :: decDigits x else decDigits x
theorem txt_canon (neg:Bool) (x:Nat):txt neg x=canon (if neg=true then -(x:Int) else x):=by
 unfold txt canon canonN
 by_cases h:x=0
 ·subst h;cases neg <;> simp
 ·cases neg
  ·rw [if_neg h]
   simp only [Bool.false_eq_true,if_false]
   rw [if_neg (by omega),if_neg (by omega)];simp
  ·rw [if_neg h]
   simp only [if_true]
   rw [if_pos (by omega)];simp
end Go.Proofs.YtbcebibkpfklnaaGreatDoor.Num
end
section
namespace Go.Proofs.YtbcebibkpfklnaaGreatDoor
open Num
theorem gval_set:∀ (o:List Nat) (k v:Nat),k < o.length→gval (o.set k v)+1000000000 ^ k * o.getD k 0=gval o+1000000000 ^ k * v
 | [],k,v,h=>by simp at h
 | g :: r,0,v,_=>by simp only [List.set_cons_zero,gval,Nat.pow_zero,Nat.one_mul,List.getD_cons_zero];omega
 | g :: r,k+1,v,h=>by
  have ih:=gval_set r k v (by simpa using h)
  simp only [List.set_cons_succ,gval,List.getD_cons_succ]
  rw [Nat.pow_succ,Nat.mul_comm (1000000000 ^ k) 1000000000,Nat.mul_assoc,Nat.mul_assoc]
  omega
theorem set_lt {o:List Nat} {k v:Nat} (h:∀ g∈o,g < 1000000000) (hv:v < 1000000000):∀ g∈o.set k v,g < 1000000000:=by
 intro g hg
 rcases List.mem_or_eq_of_mem_set hg with h1 | h1
 ·exact h g h1
 ·omega
theorem getD_lt {o:List Nat} (h:∀ g∈o,g < 1000000000) (k:Nat):o.getD k 0 < 1000000000:=by
 by_cases hk:k < o.length
 ·rw [List.getD_eq_getElem?_getD,List.getElem?_eq_getElem hk];exact h _ (List.getElem_mem hk)
 ·rw [List.getD_eq_getElem?_getD,List.getElem?_eq_none (by omega)];decide
theorem getD_set_ne {o:List Nat} {k j v:Nat} (h:k ≠ j):(o.set k v).getD j 0=o.getD j 0:=by
 rw [List.getD_eq_getElem?_getD,List.getD_eq_getElem?_getD,List.getElem?_set_ne h]
theorem gval_take_succ (n:List Nat) (k:Nat) (h:k < n.length):gval (n.take (k+1))=gval (n.take k)+1000000000 ^ k * n.getD k 0:=by
 rw [List.take_add_one,List.getElem?_eq_getElem h,gval_append,List.length_take,Nat.min_eq_left (by omega),List.getD_eq_getElem?_getD,List.getElem?_eq_getElem h]
 simp [gval]
def TimesAt (m n:List Nat) (i:Nat) (o:List Nat):Prop :=
 o.length=m.length+n.length∧(∀ g∈o,g < 1000000000)∧gval o=gval (m.take i) * gval n∧∀ j,i+n.length≤j→o.getD j 0=0
def TimesIn (m n:List Nat) (i k:Nat) (o:List Nat) (c:Nat):Prop :=
 o.length=m.length+n.length∧(∀ g∈o,g < 1000000000)∧c < 1000000000∧gval o+1000000000 ^ (i+k) * c=gval (m.take i) * gval n+1000000000 ^ i * (m.getD i 0 * gval (n.take k))∧∀ j,i+n.length≤j→o.getD j 0=0
theorem timesAt_zero (m n:List Nat):TimesAt m n 0 (List.replicate (m.length+n.length) 0):=by
 refine ⟨by simp,?_,?_,?_⟩
 ·intro g hg;rw [List.eq_of_mem_replicate hg];decide
 ·have:∀ k,gval (List.replicate k 0)=0:=by
   intro k
   induction k with
   | zero=>rfl
   | succ k ih=>rw [List.replicate_succ];simp only [gval,ih]
  rw [this];simp [gval]
 ·intro j _
  rw [List.getD_eq_getElem?_getD,List.getElem?_replicate]
  split <;> rfl
theorem timesIn_zero {m n:List Nat} {i:Nat} {o:List Nat} (h:TimesAt m n i o):TimesIn m n i 0 o 0:=by
 obtain ⟨h1,h2,h3,h4⟩:=h
 exact ⟨h1,h2,by decide,by rw [h3];simp [gval],h4⟩
theorem times_bound {c g x y:Nat} (hc:c < 1000000000) (hg:g < 1000000000) (hx:x < 1000000000) (hy:y < 1000000000):c+(g+x * y) < 1000000000 * 1000000000:=by
 have:x * y≤999999999 * 999999999:=Nat.mul_le_mul (by omega) (by omega)
 omega
theorem timesIn_succ {m n:List Nat} {i k:Nat} {o:List Nat} {c:Nat} (h:TimesIn m n i k o c) (hi:i < m.length) (hk:k < n.length) (hm:∀ g∈m,g < 1000000000) (hn:∀ g∈n,g < 1000000000) :
  TimesIn m n i (k+1) (o.set (i+k) ((c+(o.getD (i+k) 0+m.getD i 0 * n.getD k 0)) % 1000000000)) ((c+(o.getD (i+k) 0+m.getD i 0 * n.getD k 0)) / 1000000000):=by
 obtain ⟨h1,h2,h3,h4,h5⟩:=h
 have hb:=times_bound h3 (getD_lt h2 (i+k)) (getD_lt hm i) (getD_lt hn k)
 have hs:=gval_set o (i+k) ((c+(o.getD (i+k) 0+m.getD i 0 * n.getD k 0)) % 1000000000) (by omega)
 refine ⟨by simpa using h1,set_lt h2 (Nat.mod_lt _ (by decide)),by omega,?_,fun j hj=>by rw [getD_set_ne (by omega)];exact h5 j hj⟩
 rw [gval_take_succ n k hk]
 generalize o.getD (i+k) 0=g at *
 generalize m.getD i 0=x at *
 generalize n.getD k 0=y at *
 generalize hS:c+(g+x * y)=s at *
 have hdm:=Nat.div_add_mod s 1000000000
 have e1:1000000000 ^ (i+(k+1)) * (s / 1000000000)=1000000000 ^ (i+k) * (1000000000 * (s / 1000000000)):=by
  rw [← Nat.add_assoc,Nat.pow_succ,Nat.mul_assoc]
 have e2:1000000000 ^ (i+k) * (1000000000 * (s / 1000000000))+1000000000 ^ (i+k) * (s % 1000000000)=1000000000 ^ (i+k) * c+1000000000 ^ (i+k) * g+1000000000 ^ (i+k) * (x * y):=by
  rw [← Nat.mul_add,hdm,← hS,Nat.mul_add,Nat.mul_add,Nat.add_assoc]
 have e3:1000000000 ^ i * (x * (gval (n.take k)+1000000000 ^ k * y))=1000000000 ^ i * (x * gval (n.take k))+1000000000 ^ (i+k) * (x * y):=by
  rw [Nat.mul_add,Nat.mul_add,Nat.pow_add]
  congr 1
  rw [Nat.mul_assoc,Nat.mul_left_comm x]
 rw [e1,e3]
 omega
theorem timesAt_succ {m n:List Nat} {i:Nat} {o:List Nat} {c:Nat} (h:TimesIn m n i n.length o c) (hi:i < m.length) (_hn:0 < n.length):TimesAt m n (i+1) (o.set (i+n.length) (o.getD (i+n.length) 0+c)):=by
 obtain ⟨h1,h2,h3,h4,h5⟩:=h
 have h0:=h5 (i+n.length) (Nat.le_refl _)
 have hs:=gval_set o (i+n.length) (o.getD (i+n.length) 0+c) (by omega)
 rw [h0] at hs ⊢
 refine ⟨by simpa using h1,set_lt h2 (by omega),?_,fun j hj=>by rw [getD_set_ne (by omega)];exact h5 j (by omega)⟩
 rw [gval_take_succ m i hi,Nat.add_mul,Nat.mul_assoc]
 rw [List.take_length] at h4
 simp only [Nat.zero_add,Nat.mul_zero,Nat.add_zero] at hs ⊢
 omega
theorem timesAt_end {m n:List Nat} {o:List Nat} (h:TimesAt m n m.length o):cutZ o=groupsOf (gval m * gval n):=by
 obtain ⟨_,h2,h3,_⟩:=h
 rw [cutZ_eq h2,h3,List.take_length]
def SingleAt (m:List Nat) (d j:Nat) (o:List Nat) (r:Nat):Prop :=
 o.length=m.length∧(∀ g∈o,g < 1000000000)∧r < d∧gval (m.drop j)=gval (o.drop j) * d+r
theorem singleAt_start (m:List Nat) (d:Nat) (hd:0 < d):SingleAt m d m.length (List.replicate m.length 0) 0:=by
 refine ⟨by simp,?_,hd,?_⟩
 ·intro g hg;rw [List.eq_of_mem_replicate hg];decide
 ·rw [List.drop_eq_nil_of_le (Nat.le_refl _),List.drop_eq_nil_of_le (by simp)];simp [gval]
theorem singleAt_step {m:List Nat} {d j:Nat} {o:List Nat} {r:Nat} (h:SingleAt m d (j+1) o r) (hj:j < m.length) (hm:∀ g∈m,g < 1000000000) :
  SingleAt m d j (o.set j ((r * 1000000000+m.getD j 0) / d)) ((r * 1000000000+m.getD j 0) % d):=by
 obtain ⟨h1,h2,h3,h4⟩:=h
 have hg:=getD_lt hm j
 have hlt:(r * 1000000000+m.getD j 0) / d < 1000000000:=by
  rw [Nat.div_lt_iff_lt_mul (by omega)]
  have:(r+1) * 1000000000≤d * 1000000000:=Nat.mul_le_mul_right _ h3
  omega
 refine ⟨by simpa using h1,set_lt h2 hlt,Nat.mod_lt _ (by omega),?_⟩
 rw [drop_cons_getD m j hj]
 have e:(o.set j ((r * 1000000000+m.getD j 0) / d)).drop j=((r * 1000000000+m.getD j 0) / d) :: o.drop (j+1):=by
  rw [List.drop_eq_getElem_cons (by simp;omega)]
  congr 1
  ·simp
  ·rw [List.drop_set_of_lt (by omega)]
 rw [e]
 simp only [gval]
 rw [h4]
 have hdm:=Nat.div_add_mod (r * 1000000000+m.getD j 0) d
 generalize (r * 1000000000+m.getD j 0) / d=x at *
 generalize (r * 1000000000+m.getD j 0) % d=y at *
 generalize gval (o.drop (j+1))=z at *
 rw [Nat.add_mul,Nat.mul_add,Nat.mul_comm x d,Nat.mul_assoc]
 omega
theorem singleAt_end {m:List Nat} {d:Nat} {o:List Nat} {r:Nat} (h:SingleAt m d 0 o r):cutZ o=groupsOf (gval m / d)∧r=gval m % d:=by
 obtain ⟨_,h2,h3,h4⟩:=h
 rw [List.drop_zero,List.drop_zero] at h4
 rw [cutZ_eq h2]
 have hq:gval m / d=gval o:=by rw [h4,Nat.mul_comm,Nat.mul_add_div (by omega),Nat.div_eq_of_lt h3];omega
 have hr:gval m % d=r:=by rw [h4,Nat.mul_comm,Nat.mul_add_mod,Nat.mod_eq_of_lt h3]
 rw [hq,hr];exact ⟨rfl,rfl⟩
theorem guess_ge {R B P t3 t2 q:Nat} (hq:q * B≤R) (hR:R < (t3+1) * P) (hB:t2 * P≤B) (_hP:0 < P):q * t2≤t3:=by
 have h1:q * t2 * P≤q * B:=by rw [Nat.mul_assoc];exact Nat.mul_le_mul_left _ hB
 have h2:q * t2 * P < (t3+1) * P:=by omega
 have h3:=Nat.lt_of_mul_lt_mul_right h2
 omega
theorem guess_le {R B P t3 t2 g:Nat} (hg:g * t2≤t3) (hlt:g≤t2) (hR:t3 * P≤R) (hB:B < (t2+1) * P) (h0:0 < g):(g - 1) * B≤R:=by
 obtain ⟨g',rfl⟩:∃ g',g=g'+1:=⟨g - 1,by omega⟩
 rw [Nat.add_sub_cancel]
 have h1:g' * B≤g' * ((t2+1) * P):=Nat.mul_le_mul_left _ (by omega)
 have h2:g' * (t2+1)≤(g'+1) * t2:=by rw [Nat.mul_add,Nat.add_mul];omega
 have h3:g' * ((t2+1) * P)≤(g'+1) * t2 * P:=by rw [← Nat.mul_assoc];exact Nat.mul_le_mul_right _ h2
 have h4:(g'+1) * t2 * P≤t3 * P:=Nat.mul_le_mul_right _ hg
 omega
end Go.Proofs.YtbcebibkpfklnaaGreatDoor
end
section
namespace Go.Proofs.YtbcebibkpfklnaaGreatDoor
open Num
theorem gval_take_le (m:List Nat) (k:Nat):gval m=gval (m.take k)+1000000000 ^ k * gval (m.drop k):=by
 by_cases hk:k≤m.length
 ·conv=>lhs;rw [← List.take_append_drop k m]
  rw [gval_append,List.length_take,Nat.min_eq_left hk]
 ·rw [List.take_of_length_le (by omega),List.drop_eq_nil_of_le (by omega)];simp [gval]
theorem gval_take_lt {m:List Nat} (h:∀ g∈m,g < 1000000000) (k:Nat):gval (m.take k) < 1000000000 ^ k:=by
 have h1:=gval_lt (m:=m.take k) (fun g hg=>h g (List.mem_of_mem_take hg))
 have h2:1000000000 ^ (m.take k).length≤1000000000 ^ k:=Nat.pow_le_pow_right (by decide) (by rw [List.length_take];omega)
 omega
theorem gval_drop_get (m:List Nat) (k:Nat):gval (m.drop k)=m.getD k 0+1000000000 * gval (m.drop (k+1)):=by
 by_cases hk:k < m.length
 ·rw [drop_cons_getD m k hk];rfl
 ·rw [List.drop_eq_nil_of_le (by omega),List.drop_eq_nil_of_le (by omega),List.getD_eq_getElem?_getD,List.getElem?_eq_none (by omega)];simp [gval]
theorem gval_drop_zero {m:List Nat} {k:Nat} (h:gval m < 1000000000 ^ k):gval (m.drop k)=0:=by
 have h1:=gval_take_le m k
 rcases Nat.eq_zero_or_pos (gval (m.drop k)) with h0 | h0
 ·exact h0
 ·have:1000000000 ^ k * 1≤1000000000 ^ k * gval (m.drop k):=Nat.mul_le_mul_left _ h0
  omega
theorem gval_take_of_lt {m:List Nat} {k:Nat} (h:gval m < 1000000000 ^ k):gval (m.take k)=gval m:=by
 have h1:=gval_take_le m k
 rw [gval_drop_zero h] at h1;omega
theorem top_nat {z t p V:Nat} (h1:V=z+p * t) (h2:z < p):t * p≤V∧V < (t+1) * p:=by
 rw [Nat.add_mul,Nat.one_mul,Nat.mul_comm t p];omega
theorem top3_nat (x y z:Nat):z+1000000000 * (y+1000000000 * (x+1000000000 * 0))=(x * 1000000000+y) * 1000000000+z:=by omega
theorem top2_nat (y z:Nat):z+1000000000 * (y+1000000000 * 0)=y * 1000000000+z:=by omega
theorem top3 {m:List Nat} {s:Nat} (hm:∀ g∈m,g < 1000000000) (h:gval m < 1000000000 ^ (s+3)) :
  ((m.getD (s+2) 0 * 1000000000+m.getD (s+1) 0) * 1000000000+m.getD s 0) * 1000000000 ^ s≤gval m∧gval m < ((m.getD (s+2) 0 * 1000000000+m.getD (s+1) 0) * 1000000000+m.getD s 0+1) * 1000000000 ^ s:=by
 have h1:=gval_take_le m s
 rw [gval_drop_get m s,gval_drop_get m (s+1),gval_drop_get m (s+1+1),gval_drop_zero (k:=s+1+1+1) h,top3_nat] at h1
 exact top_nat h1 (gval_take_lt hm s)
theorem top2 {m:List Nat} {s:Nat} (hm:∀ g∈m,g < 1000000000) (h:gval m < 1000000000 ^ (s+2)) :
  (m.getD (s+1) 0 * 1000000000+m.getD s 0) * 1000000000 ^ s≤gval m∧gval m < (m.getD (s+1) 0 * 1000000000+m.getD s 0+1) * 1000000000 ^ s:=by
 have h1:=gval_take_le m s
 rw [gval_drop_get m s,gval_drop_get m (s+1),gval_drop_zero (k:=s+1+1) h,top2_nat] at h1
 exact top_nat h1 (gval_take_lt hm s)
def DivAt (A:Nat) (b:List Nat) (L s j:Nat) (a q:List Nat):Prop :=
 a.length=L∧(∀ g∈a,g < 1000000000)∧q.length=L - (s+2)∧(∀ g∈q,g < 1000000000)∧gval a < 1000000000 ^ j * gval b∧A=gval (q.drop j) * 1000000000 ^ j * gval b+gval a
def GuessAt (V:Nat) (b:List Nat) (i g:Nat):Prop:=V < (g+1) * (gval b * 1000000000 ^ i)∧g≤999999999
theorem divisor_lt {b:List Nat} {s:Nat} (hb:b.length=s+2) (hbl:∀ g∈b,g < 1000000000):gval b < 1000000000 ^ (s+2):=by
 have:=gval_lt hbl;rwa [hb] at this
theorem div_top {A:Nat} {b:List Nat} {L s i:Nat} {a q:List Nat} (h:DivAt A b L s (i+1) a q) (hb:b.length=s+2) (hbl:∀ g∈b,g < 1000000000):gval a < 1000000000 ^ (i+s+3):=by
 obtain ⟨_,_,_,_,h5,_⟩:=h
 have h1:=divisor_lt hb hbl
 have h2:1000000000 ^ (i+1) * gval b≤1000000000 ^ (i+1) * 1000000000 ^ (s+2):=Nat.mul_le_mul_left _ (by omega)
 rw [← Nat.pow_add,show i+1+(s+2)=i+s+3 by omega] at h2
 omega
theorem guess_start {A:Nat} {b:List Nat} {L s i:Nat} {a q:List Nat} (h:DivAt A b L s (i+1) a q) (hb:b.length=s+2) (hbl:∀ g∈b,g < 1000000000) (hpos:0 < b.getD (s+1) 0) :
  GuessAt (gval a) b i (min ((a.getD (i+s+2) 0 * 1000000000+a.getD (i+s+1) 0) / b.getD (s+1) 0) 999999999):=by
 have hV:=div_top h hb hbl
 obtain ⟨_,h2,_,_,h5,_⟩:=h
 refine ⟨?_,Nat.min_le_right _ _⟩
 have t3:=(top3 h2 hV).2
 have t2:=(top2 hbl (divisor_lt hb hbl)).1
 generalize hx:a.getD (i+s+2) 0=x at *
 generalize a.getD (i+s+1) 0=y at *
 have hz:=getD_lt h2 (i+s)
 generalize a.getD (i+s) 0=z at *
 generalize hu:b.getD (s+1) 0=u at *
 generalize b.getD s 0=v at *
 by_cases hc:(x * 1000000000+y) / u≤999999999
 ·rw [Nat.min_eq_left hc]
  generalize hg:(x * 1000000000+y) / u=g at *
  have hlt:x * 1000000000+y < u * (g+1):=by rw [← hg];exact Nat.lt_mul_div_succ _ hpos
  have a1:(x * 1000000000+y) * 1000000000+z+1≤u * (g+1) * 1000000000:=by
   have:(x * 1000000000+y+1) * 1000000000≤u * (g+1) * 1000000000:=Nat.mul_le_mul_right _ hlt
   omega
  have a2:=Nat.mul_le_mul_right (1000000000 ^ (i+s)) a1
  have a3:u * 1000000000 * 1000000000 ^ s≤gval b:=by
   exact Nat.le_trans (Nat.mul_le_mul_right _ (Nat.le_add_right _ v)) t2
  have a4:u * (g+1) * 1000000000 * 1000000000 ^ (i+s)=(g+1) * (u * 1000000000 * 1000000000 ^ s * 1000000000 ^ i):=by
   rw [Nat.add_comm i s,Nat.pow_add]
   generalize 1000000000 ^ s=p
   generalize 1000000000 ^ i=r
   rw [Nat.mul_comm u (g+1)]
   simp only [Nat.mul_assoc]
  have a5:(g+1) * (u * 1000000000 * 1000000000 ^ s * 1000000000 ^ i)≤(g+1) * (gval b * 1000000000 ^ i):=Nat.mul_le_mul_left _ (Nat.mul_le_mul_right _ a3)
  omega
 ·rw [Nat.min_eq_right (by omega)]
  have e:(999999999+1) * (gval b * 1000000000 ^ i)=1000000000 ^ (i+1) * gval b:=by
   rw [Nat.pow_succ,Nat.mul_comm (gval b),Nat.mul_comm (1000000000 ^ i) 1000000000,Nat.mul_assoc]
  rw [e];exact h5
theorem guess_less {A:Nat} {b:List Nat} {L s i:Nat} {a q:List Nat} {g:Nat} (h:DivAt A b L s (i+1) a q) (hb:b.length=s+2) (hbl:∀ g∈b,g < 1000000000) (hg:GuessAt (gval a) b i (g+1))
  (ht:(a.getD (i+s+2) 0 * 1000000000+a.getD (i+s+1) 0) * 1000000000+a.getD (i+s) 0 < (g+1) * (b.getD (s+1) 0 * 1000000000+b.getD s 0)):GuessAt (gval a) b i g:=by
 have hV:=div_top h hb hbl
 obtain ⟨_,h2,_,_,h5,_⟩:=h
 have t3:=(top3 h2 hV).2
 have t2:=(top2 hbl (divisor_lt hb hbl)).1
 refine ⟨?_,by have:=hg.2;omega⟩
 rcases Nat.lt_or_ge (gval a) ((g+1) * (gval b * 1000000000 ^ i)) with h0 | h0
 ·exact h0
 ·exfalso
  have t2':=Nat.mul_le_mul_right (1000000000 ^ i) t2
  rw [Nat.mul_assoc,← Nat.pow_add,Nat.add_comm s i] at t2'
  have:=guess_ge (R:=gval a) (B:=gval b * 1000000000 ^ i) (q:=g+1) h0 t3 t2' (Nat.pos_of_ne_zero (by intro e;have:=Nat.one_le_pow (i+s) 1000000000 (by decide);omega))
  omega
theorem guess_end {A:Nat} {b:List Nat} {L s i:Nat} {a q:List Nat} {g:Nat} (h:DivAt A b L s (i+1) a q) (hb:b.length=s+2) (hbl:∀ g∈b,g < 1000000000) (hpos:0 < b.getD (s+1) 0) (hg:GuessAt (gval a) b i (g+1))
  (ht:(g+1) * (b.getD (s+1) 0 * 1000000000+b.getD s 0)≤(a.getD (i+s+2) 0 * 1000000000+a.getD (i+s+1) 0) * 1000000000+a.getD (i+s) 0):g * (gval b * 1000000000 ^ i)≤gval a:=by
 have hV:=div_top h hb hbl
 obtain ⟨_,h2,_,_,h5,_⟩:=h
 have t3:=(top3 h2 hV).1
 have t2:=(top2 hbl (divisor_lt hb hbl)).2
 have hp:0 < 1000000000 ^ i:=Nat.pos_of_ne_zero (by intro e;have:=Nat.one_le_pow i 1000000000 (by decide);omega)
 have t2':=Nat.mul_lt_mul_of_pos_right t2 hp
 rw [Nat.mul_assoc,← Nat.pow_add,Nat.add_comm s i] at t2'
 have:=guess_le (R:=gval a) (B:=gval b * 1000000000 ^ i) ht (by have:=hg.2;omega) t3 t2' (by omega)
 simpa using this
def SubAt (a0 b:List Nat) (g i j:Nat) (a:List Nat) (c:Nat):Prop :=
 a.length=a0.length∧(∀ x∈a,x < 1000000000)∧c≤999999999∧a.drop (i+j)=a0.drop (i+j)∧gval a+g * gval (b.take j) * 1000000000 ^ i=gval a0+c * 1000000000 ^ (i+j)
theorem subAt_zero (a0 b:List Nat) (g i:Nat) (h:∀ x∈a0,x < 1000000000):SubAt a0 b g i 0 a0 0:=⟨rfl,h,by decide,rfl,by simp [gval]⟩
theorem getD_drop_eq {a b:List Nat} {k:Nat} (h:a.drop k=b.drop k):a.getD k 0=b.getD k 0:=by
 have:=congrArg (fun l=>l.headD 0) h
 simpa only [headD_drop] using this
theorem drop_succ_eq {a b:List Nat} {k:Nat} (h:a.drop k=b.drop k):a.drop (k+1)=b.drop (k+1):=by
 have:=congrArg List.tail h
 simpa only [tail_drop] using this
theorem drop_set_lt (a:List Nat) {k j v:Nat} (h:k < j):(a.set k v).drop j=a.drop j:=by rw [List.drop_set_of_lt h]
theorem sub_bound {g y c:Nat} (hg:g≤999999999) (hy:y < 1000000000) (hc:c≤999999999):(g * y+c) / 1000000000≤999999999∧((g * y+c) / 1000000000=999999999→(g * y+c) % 1000000000=0)∧g * y≤999999998000000001:=by
 have:g * y≤999999999 * 999999999:=Nat.mul_le_mul hg (by omega)
 generalize g * y=p at *
 omega
theorem subAt_step {a0 b:List Nat} {g i j:Nat} {a:List Nat} {c:Nat} (h:SubAt a0 b g i j a c) (hj:j < b.length) (hij:i+j < a0.length) (hg:g≤999999999) (hbl:∀ x∈b,x < 1000000000)
  (v c':Nat) (hv:(a.getD (i+j) 0 < (g * b.getD j 0+c) % 1000000000∧v=a.getD (i+j) 0+1000000000 - (g * b.getD j 0+c) % 1000000000∧c'=(g * b.getD j 0+c) / 1000000000+1)∨(¬ a.getD (i+j) 0 < (g * b.getD j 0+c) % 1000000000∧v=a.getD (i+j) 0 - (g * b.getD j 0+c) % 1000000000∧c'=(g * b.getD j 0+c) / 1000000000)) :
  SubAt a0 b g i (j+1) (a.set (i+j) v) c':=by
 obtain ⟨h1,h2,h3,h4,h5⟩:=h
 have hx:=getD_lt h2 (i+j)
 have hb:=sub_bound hg (getD_lt hbl j) h3
 have hs:=gval_set a (i+j) v (by omega)
 show _∧_∧_∧_∧_
 rw [show i+(j+1)=i+j+1 by omega]
 refine ⟨by simpa using h1,set_lt h2 (by omega),by omega,by rw [drop_set_lt _ (by omega)];exact drop_succ_eq h4,?_⟩
 rw [gval_take_succ b j hj]
 generalize a.getD (i+j) 0=x at *
 generalize b.getD j 0=y at *
 have hdm:=Nat.div_add_mod (g * y+c) 1000000000
 have key:v+(g * y+c)=x+1000000000 * c':=by
  generalize hS:g * y+c=S at *
  omega
 have k2:1000000000 ^ (i+j) * v+(1000000000 ^ (i+j) * (g * y)+1000000000 ^ (i+j) * c)=1000000000 ^ (i+j) * x+1000000000 ^ (i+j) * (1000000000 * c'):=by
  rw [← Nat.mul_add,← Nat.mul_add,key,Nat.mul_add]
 have e1:g * (gval (b.take j)+1000000000 ^ j * y) * 1000000000 ^ i=g * gval (b.take j) * 1000000000 ^ i+1000000000 ^ (i+j) * (g * y):=by
  rw [Nat.mul_add,Nat.add_mul,Nat.pow_add]
  congr 1
  generalize 1000000000 ^ j=p
  generalize 1000000000 ^ i=r
  rw [Nat.mul_left_comm g p y,Nat.mul_assoc,Nat.mul_comm (g * y) r,← Nat.mul_assoc,Nat.mul_comm p r]
 have e2:c' * 1000000000 ^ (i+j+1)=1000000000 ^ (i+j) * (1000000000 * c'):=by
  rw [Nat.pow_succ,Nat.mul_comm c',Nat.mul_assoc]
 rw [e1,e2]
 rw [Nat.mul_comm c] at h5
 omega
def BackAt (a0 b:List Nat) (i j:Nat) (a:List Nat) (c:Nat):Prop :=
 a.length=a0.length∧(∀ x∈a,x < 1000000000)∧c≤1∧a.drop (i+j)=a0.drop (i+j)∧gval a+c * 1000000000 ^ (i+j)=gval a0+gval (b.take j) * 1000000000 ^ i
theorem backAt_zero (a0 b:List Nat) (i:Nat) (h:∀ x∈a0,x < 1000000000):BackAt a0 b i 0 a0 0:=⟨rfl,h,by decide,rfl,by simp [gval]⟩
theorem backAt_step {a0 b:List Nat} {i j:Nat} {a:List Nat} {c:Nat} (h:BackAt a0 b i j a c) (hj:j < b.length) (hij:i+j < a0.length) (hbl:∀ x∈b,x < 1000000000) :
  BackAt a0 b i (j+1) (a.set (i+j) ((a.getD (i+j) 0+(b.getD j 0+c)) % 1000000000)) ((a.getD (i+j) 0+(b.getD j 0+c)) / 1000000000):=by
 obtain ⟨h1,h2,h3,h4,h5⟩:=h
 have hx:=getD_lt h2 (i+j)
 have hy:=getD_lt hbl j
 have hs:=gval_set a (i+j) ((a.getD (i+j) 0+(b.getD j 0+c)) % 1000000000) (by omega)
 show _∧_∧_∧_∧_
 rw [show i+(j+1)=i+j+1 by omega]
 refine ⟨by simpa using h1,set_lt h2 (Nat.mod_lt _ (by decide)),by omega,by rw [drop_set_lt _ (by omega)];exact drop_succ_eq h4,?_⟩
 rw [gval_take_succ b j hj]
 generalize a.getD (i+j) 0=x at *
 generalize b.getD j 0=y at *
 have hdm:=Nat.div_add_mod (x+(y+c)) 1000000000
 have k2:1000000000 ^ (i+j) * (1000000000 * ((x+(y+c)) / 1000000000))+1000000000 ^ (i+j) * ((x+(y+c)) % 1000000000)=1000000000 ^ (i+j) * x+(1000000000 ^ (i+j) * y+1000000000 ^ (i+j) * c):=by
  rw [← Nat.mul_add,hdm,Nat.mul_add,Nat.mul_add]
 have e1:(gval (b.take j)+1000000000 ^ j * y) * 1000000000 ^ i=gval (b.take j) * 1000000000 ^ i+1000000000 ^ (i+j) * y:=by
  rw [Nat.add_mul,Nat.pow_add]
  congr 1
  rw [Nat.mul_right_comm,Nat.mul_comm (1000000000 ^ j)]
 have e2:(x+(y+c)) / 1000000000 * 1000000000 ^ (i+j+1)=1000000000 ^ (i+j) * (1000000000 * ((x+(y+c)) / 1000000000)):=by
  rw [Nat.pow_succ,Nat.mul_comm,Nat.mul_assoc]
 rw [e1,e2]
 rw [Nat.mul_comm c] at h5
 omega
theorem divAt_next {A:Nat} {b:List Nat} {L s i:Nat} {a q:List Nat} (h:DivAt A b L s (i+1) a q) (hi:i < L - (s+2)) {a':List Nat} {g:Nat} (hl:a'.length=L) (hlt:∀ x∈a',x < 1000000000) (hg:g≤999999999)
  (hv:gval a'+g * (gval b * 1000000000 ^ i)=gval a) (hV:gval a < (g+1) * (gval b * 1000000000 ^ i)):DivAt A b L s i a' (q.set i g):=by
 obtain ⟨h1,h2,h3,h4,h5,h6⟩:=h
 have e:(q.set i g).drop i=g :: q.drop (i+1):=by
  rw [List.drop_eq_getElem_cons (by simp;omega)]
  congr 1
  ·simp
  ·rw [List.drop_set_of_lt (by omega)]
 refine ⟨hl,hlt,by simpa using h3,set_lt h4 (by omega),?_,?_⟩
 ·rw [Nat.add_mul,Nat.one_mul] at hV
  rw [Nat.mul_comm];omega
 ·rw [e,h6]
  simp only [gval]
  rw [← hv,Nat.pow_succ]
  generalize gval (q.drop (i+1))=Q
  generalize 1000000000 ^ i=r
  generalize gval b=B
  generalize gval a'=V
  have e1:(g+1000000000 * Q) * r * B=g * (B * r)+Q * (r * 1000000000) * B:=by
   rw [Nat.add_mul,Nat.add_mul,Nat.mul_assoc g,Nat.mul_comm r B]
   congr 2
   rw [Nat.mul_comm 1000000000 Q,Nat.mul_assoc,Nat.mul_comm 1000000000 r]
  rw [e1];omega
theorem div_fit {A:Nat} {b:List Nat} {L s i:Nat} {a q:List Nat} (h:DivAt A b L s (i+1) a q) (hb:b.length=s+2) (hi:i < L - (s+2)) {a1:List Nat} {g c:Nat} (hg:GuessAt (gval a) b i g)
  (hs:SubAt a b g i b.length a1 c) (hc:c≤a1.getD (i+(s+2)) 0):DivAt A b L s i (a1.set (i+(s+2)) (a1.getD (i+(s+2)) 0 - c)) (q.set i g):=by
 obtain ⟨s1,s2,s3,s4,s5⟩:=hs
 have hl:=h.1
 rw [List.take_length,hb] at s5
 have hx:=getD_lt s2 (i+(s+2))
 have hset:=gval_set a1 (i+(s+2)) (a1.getD (i+(s+2)) 0 - c) (by omega)
 refine divAt_next h hi (by simp [s1,hl]) (set_lt s2 (by omega)) hg.2 ?_ hg.1
 generalize a1.getD (i+(s+2)) 0=x at *
 obtain ⟨d,rfl⟩:∃ d,x=c+d:=⟨x - c,by omega⟩
 rw [Nat.add_sub_cancel_left] at hset ⊢
 rw [Nat.mul_add,Nat.mul_comm _ c] at hset
 rw [Nat.mul_assoc] at s5
 omega
theorem back_nat {V x m1 m2 c d g P B:Nat} (h1:m1 < P) (h2:m2 < P) (hB:B < P) (hc:x < c) (s5:m1+P * x+g * B=V+c * P) (k5:m2+P * x+d * P=m1+P * x+B) (hend:∀ g',g=g'+1→g' * B≤V) :
  0 < g∧x+d=c∧m2+(g - 1) * B=V∧V < (g - 1+1) * B:=by
 obtain ⟨e,rfl⟩:∃ e,c=x+1+e:=⟨c - x - 1,by omega⟩
 have c1:(x+1+e) * P=P * x+P+e * P:=by rw [Nat.add_mul,Nat.add_mul,Nat.one_mul,Nat.mul_comm x]
 rw [c1] at s5
 have hlt:V < g * B:=by omega
 have hg0:0 < g:=by
  rcases Nat.eq_zero_or_pos g with rfl | h0
  ·simp at hlt
  ·exact h0
 obtain ⟨g',rfl⟩:∃ g',g=g'+1:=⟨g - 1,by omega⟩
 have hle:=hend g' rfl
 rw [Nat.add_mul,Nat.one_mul] at s5 hlt
 have hd:m2+d * P+g' * B=V+P+e * P:=by omega
 have hdd:d=1+e:=by
  rcases Nat.lt_trichotomy d (1+e) with hh | hh | hh
  ·exfalso
   have:(d+1) * P≤(1+e) * P:=Nat.mul_le_mul_right _ hh
   rw [Nat.add_mul,Nat.add_mul,Nat.one_mul] at this
   omega
  ·exact hh
  ·exfalso
   have:(1+e+1) * P≤d * P:=Nat.mul_le_mul_right _ hh
   rw [Nat.add_mul,Nat.add_mul,Nat.one_mul] at this
   omega
 subst hdd
 rw [Nat.add_mul,Nat.one_mul] at hd
 rw [Nat.add_sub_cancel,Nat.add_mul,Nat.one_mul]
 exact ⟨by omega,by omega,by omega,by omega⟩
theorem div_back {A:Nat} {b:List Nat} {L s i:Nat} {a q:List Nat} (h:DivAt A b L s (i+1) a q) (hb:b.length=s+2) (hbl:∀ g∈b,g < 1000000000) (hi:i < L - (s+2)) {a1 a2:List Nat} {g c d:Nat} (hg:GuessAt (gval a) b i g) (hend:∀ g',g=g'+1→g' * (gval b * 1000000000 ^ i)≤gval a)
  (hs:SubAt a b g i b.length a1 c) (hc:a1.getD (i+(s+2)) 0 < c) (hk:BackAt a1 b i b.length a2 d) :
  0 < g∧a2.getD (i+(s+2)) 0+d=c∧DivAt A b L s i (a2.set (i+(s+2)) 0) (q.set i (g - 1)):=by
 have hV:=div_top h hb hbl
 obtain ⟨s1,s2,s3,s4,s5⟩:=hs
 obtain ⟨k1,k2,k3,k4,k5⟩:=hk
 have hl:=h.1
 rw [List.take_length,hb,Nat.mul_assoc] at s5
 rw [List.take_length,hb] at k5
 rw [hb] at s4 k4
 have hz:gval (a.drop (i+(s+2)+1))=0:=gval_drop_zero (by rw [show i+(s+2)+1=i+s+3 by omega];exact hV)
 have z1:gval (a1.drop (i+(s+2)+1))=0:=by rw [drop_succ_eq s4];exact hz
 have z2:gval (a2.drop (i+(s+2)+1))=0:=by rw [drop_succ_eq k4];exact z1
 have e1:=gval_take_le a1 (i+(s+2))
 have e2:=gval_take_le a2 (i+(s+2))
 rw [gval_drop_get,z1,Nat.mul_zero,Nat.add_zero (a1.getD (i+(s+2)) 0)] at e1
 rw [gval_drop_get,z2,Nat.mul_zero,Nat.add_zero (a2.getD (i+(s+2)) 0)] at e2
 have ex:=getD_drop_eq k4
 have hset:=gval_set a2 (i+(s+2)) 0 (by omega)
 rw [Nat.mul_zero,Nat.add_zero (gval a2)] at hset
 have hB:gval b * 1000000000 ^ i < 1000000000 ^ (i+(s+2)):=by
  rw [Nat.add_comm i,Nat.pow_add]
  exact Nat.mul_lt_mul_of_pos_right (divisor_lt hb hbl) (Nat.pos_of_ne_zero (by intro e;have:=Nat.one_le_pow i 1000000000 (by decide);omega))
 rw [ex] at e2 hset ⊢
 rw [e1] at s5 k5
 rw [e2] at k5 hset
 obtain ⟨r1,r2,r3,r4⟩:=back_nat (gval_take_lt s2 _) (gval_take_lt k2 _) hB hc s5 k5 hend
 refine ⟨r1,r2,divAt_next h hi (by simp [k1,s1,hl]) (set_lt k2 (by decide)) (Nat.le_trans (Nat.sub_le _ _) hg.2) ?_ r4⟩
 rw [Nat.add_right_cancel hset]
 exact r3
theorem divAt_start {m b:List Nat} {s:Nat} (hm:∀ g∈m,g < 1000000000) (hl:s+2≤m.length) (hpos:0 < b.getD (s+1) 0):DivAt (gval m) b (m.length+2) s (m.length+2 - (s+2)) (m ++ [0,0]) (List.replicate (m.length+2 - (s+2)) 0):=by
 have hz:gval (m ++ [0,0])=gval m:=by rw [gval_append];simp [gval]
 refine ⟨by simp,?_,by simp,?_,?_,?_⟩
 ·intro g hg
  rcases List.mem_append.1 hg with h | h
  ·exact hm g h
  ·simp at h;omega
 ·intro g hg;rw [List.eq_of_mem_replicate hg];decide
 ·rw [hz]
  have h1:=gval_lt hm
  have h2:=gval_take_le b (s+1)
  rw [gval_drop_get] at h2
  have h3:1000000000 ^ (s+1) * 1≤1000000000 ^ (s+1) * (b.getD (s+1) 0+1000000000 * gval (b.drop (s+1+1))):=Nat.mul_le_mul_left _ (by omega)
  have h4:1000000000 ^ (m.length+2 - (s+2)) * 1000000000 ^ (s+1)≤1000000000 ^ (m.length+2 - (s+2)) * gval b:=Nat.mul_le_mul_left _ (by omega)
  rw [← Nat.pow_add,show m.length+2 - (s+2)+(s+1)=m.length+1 by omega,Nat.pow_succ] at h4
  omega
 ·rw [hz,List.drop_eq_nil_of_le (by simp)];simp [gval]
theorem divAt_end {A:Nat} {b:List Nat} {L s:Nat} {a q:List Nat} (h:DivAt A b L s 0 a q) (hb:b.length=s+2) (hbl:∀ g∈b,g < 1000000000) :
  cutZ q=groupsOf (A / gval b)∧cutZ (a.take (s+2))=groupsOf (A % gval b):=by
 obtain ⟨h1,h2,h3,h4,h5,h6⟩:=h
 rw [Nat.pow_zero,Nat.one_mul] at h5
 rw [List.drop_zero,Nat.pow_zero,Nat.mul_one] at h6
 have hB:=divisor_lt hb hbl
 have hq:A / gval b=gval q:=by rw [h6,Nat.mul_comm,Nat.mul_add_div (by omega),Nat.div_eq_of_lt h5];omega
 have hr:A % gval b=gval a:=by rw [h6,Nat.mul_comm,Nat.mul_add_mod,Nat.mod_eq_of_lt h5]
 rw [hq,hr,cutZ_eq h4,cutZ_eq (fun g hg=>h2 g (List.mem_of_mem_take hg)),gval_take_of_lt (by omega)]
 exact ⟨rfl,rfl⟩
end Go.Proofs.YtbcebibkpfklnaaGreatDoor
end
section
namespace Go.Proofs.YtbcebibkpfklnaaGreatDoor.Cal
def leap (y:Int):Bool:=(y % 4 == 0 && y % 100 != 0) || y % 400 == 0
def lp (y:Int):Int:=if leap y=true then 1 else 0
def dim (y m:Int):Int:=if m=2 then 28+lp y else if m=4∨m=6∨m=9∨m=11 then 30 else 31
def dby (y:Int):Int:=365 * (y - 1900)+((y - 1) / 4 - (y - 1) / 100+(y - 1) / 400) - 460
def cum (y m:Int):Int :=
 if m=1 then 0 else if m=2 then 31 else if m=3 then 59+lp y else if m=4 then 90+lp y else if m=5 then 120+lp y
 else if m=6 then 151+lp y else if m=7 then 181+lp y else if m=8 then 212+lp y else if m=9 then 243+lp y
 else if m=10 then 273+lp y else if m=11 then 304+lp y else if m=12 then 334+lp y else 365+lp y
def num (y m d:Int):Int:=dby y+cum y m+d - 1
def Valid (y m d:Int):Prop:=1900≤y∧y≤2199∧1≤m∧m≤12∧1≤d∧d≤dim y m
def IsDate (n:Int) (p:Int × Int × Int):Prop:=Valid p.1 p.2.1 p.2.2∧num p.1 p.2.1 p.2.2=n
noncomputable def civ (n:Int):Int × Int × Int:=Classical.epsilon (IsDate n)
noncomputable def months12 (n k:Int):Int:=12 * (civ n).1+(civ n).2.1 - 1+k
noncomputable def shiftYear (n k:Int):Int:=months12 n k / 12
noncomputable def shiftMonth (n k:Int):Int:=months12 n k % 12+1
noncomputable def shiftDay (n k:Int):Int:=min (civ n).2.2 (dim (shiftYear n k) (shiftMonth n k))
noncomputable def shift (n k:Int):Int:=num (shiftYear n k) (shiftMonth n k) (shiftDay n k)
noncomputable def add (d n:Int):Int × Int :=
 if d < -25567∨84005 < d then (0,13) else if n < -4800∨4800 < n then (0,2)
 else if shiftYear (d+25567) n < 1900∨2199 < shiftYear (d+25567) n then (0,13) else (shift (d+25567) n - 25567,0)
end Go.Proofs.YtbcebibkpfklnaaGreatDoor.Cal
end
