/- Ref01 Ref19 Lots Mul -/
import Derived.Test.YtgopbldkhlmbnaaGreatDoorJAdd
import Derived.Test.YtgopbldkhlmbnaaGreatDoorJDivide
set_option maxHeartbeats 16000000
set_option maxRecDepth 100000
namespace Go.Proofs.YtgopbldkhlmbnaaGreatDoor
section
open Go.RowKit Num
attribute [local go_sem] str_append str_extract str_size
def strLen:Value→Nat
 | .string b=>b.size
 | _=>0
theorem rdigits_any (l:List UInt8) (w:World) (hl:l.length≤9000000000000000000) :
  Calls Tryz.prog 135 #[.string ⟨l.toArray⟩] w fun e w'=>e = .returned (.tuple #[.string ⟨(digs l).toArray⟩,.bool (negs l)])∧w=w':=by
 have hd:=Lib.hid (show digs l=if (body l).all isDig=true then (body l).dropWhile (· == 48) else [] from rfl)
 have hn:=Lib.hid (show negs l=(minus l && !(digs l).isEmpty) from rfl)
 have hbl:=body_le l
 have hc:(l.length=0∧body l=l∧minus l=false)∨(∃ h:0 < (⟨l.toArray⟩:ByteArray).size,(((⟨l.toArray⟩:ByteArray)[0]'h).toNat:Int)=45∧body l=l.tail∧minus l=true)∨(∃ h:0 < (⟨l.toArray⟩:ByteArray).size,¬ (((⟨l.toArray⟩:ByteArray)[0]'h).toNat:Int)=45∧body l=l∧minus l=false):=by
  cases l with
  | nil=>exact .inl ⟨rfl,rfl,rfl⟩
  | cons c r =>
   have h0:0 < (⟨(c :: r).toArray⟩:ByteArray).size:=by rw [str_size];simp
   have hg:=str_get (c :: r) 0 h0
   simp only [List.getD_cons_zero] at hg
   by_cases h:c=45
   ·refine .inr (.inl ⟨h0,by rw [hg,h];rfl,?_,?_⟩)
    ·unfold body;simp [h]
    ·unfold minus;simp [h]
   ·refine .inr (.inr ⟨h0,?_,?_,?_⟩)
    ·rw [hg];intro h2;exact h (UInt8.toNat.inj (by rw [show (45:UInt8).toNat=45 from rfl];omega))
    ·unfold body;simp [h]
    ·unfold minus;simp [h]
 generalize negs l=nn at *
 generalize digs l=dd at *
 generalize hb:body l=b at *
 generalize minus l=mi at *
 clear hb
 have hc':(l.length=0∧b=l∧mi=false)∨(∃ h:0 < (⟨l.toArray⟩:ByteArray).size,(((⟨l.toArray⟩:ByteArray)[0]'h).toNat:Int)=45∧b=l.tail∧mi=true∧(1:Int)≤l.length)∨(∃ h:0 < (⟨l.toArray⟩:ByteArray).size,¬ (((⟨l.toArray⟩:ByteArray)[0]'h).toNat:Int)=45∧b=l∧mi=false):=by
  rcases hc with h | ⟨h1,h2,h3,h4⟩ | h
  ·exact .inl h
  ·exact .inr (.inl ⟨h1,h2,h3,h4,by rw [str_size] at h1;omega⟩)
  ·exact .inr (.inr h)
 clear hc
 rcases hc' with ⟨h0,e1,e2⟩ | ⟨h0,h1,e1,e2,h2⟩ | ⟨h0,h1,e1,e2⟩
 ·subst e2
  subst e1
  go_enter Tryz.func135,Tryz.ntmps135
  go_wp2
  have h1:True:=trivial
  have h2:True:=trivial
  go_loop [6] (fun i => ∃ k:Nat,k≤b.length∧i = .int .i64 (k:Int)∧Hid (∀ j,j < k→isDig (b.getD j 0)=true)) (fun i=>b.length - (intOf i).toNat)
  case atStart=>exact ⟨0,Nat.zero_le _,rfl,fun j hj=>absurd hj (Nat.not_lt_zero j)⟩
  case round =>
   clear h1 h2
   clear h0
   obtain ⟨k,hk,rfl,hp⟩:=hrel
   by_cases hlt:k < b.length
   ·have hsz:k < (⟨b.toArray⟩:ByteArray).size:=by rw [str_size];exact hlt
    have hgk:=Lib.hid (congrArg UInt8.toNat (str_get b k hsz))
    have hdef:=Lib.hid (isDig_iff (b.getD k 0))
    rw [← hgk.out] at hdef
    by_cases n1:(((⟨b.toArray⟩:ByteArray)[k]'hsz).toNat:Int) < 48
    ·have e1:isDig (b.getD k 0)=false:=by cases hb:isDig (b.getD k 0) with
      | false=>rfl
      | true=>have:=hdef.out.1 hb;omega
     have hs2:=Lib.hid (all_false hlt e1)
     clear hdef hgk e1
     go_wp2
     go_ret2
     exact ⟨ret_val (by rw [hn.out,hd.out,hs2.out];simp),rfl⟩
    ·by_cases n2:(57:Int) < ((⟨b.toArray⟩:ByteArray)[k]'hsz).toNat
     ·have e1:isDig (b.getD k 0)=false:=by cases hb:isDig (b.getD k 0) with
       | false=>rfl
       | true=>have:=hdef.out.1 hb;omega
      have hs2:=Lib.hid (all_false hlt e1)
      clear hdef hgk e1
      go_wp2
      go_ret2
      exact ⟨ret_val (by rw [hn.out,hd.out,hs2.out];simp),rfl⟩
     ·have hs2:=Lib.hid (step_lt (p:=fun j=>isDig (b.getD j 0)=true) hp.out (hdef.out.2 (by omega)))
      clear hdef hgk
      go_wp2
      go_round
      case rel=>exact ⟨k+1,by omega,by go_num,hs2⟩
      case measure=>simp [intOf];omega
   ·obtain rfl:k=b.length:=by omega
    have hs2:=Lib.hid (all_true hp.out)
    have hd:Hid (dd=b.dropWhile (· == 48)):=by show _=_;rw [hd.out,hs2.out];simp
    clear hp hs2 hlt
    go_wp2
    go_loop [4] (fun s => ∃ t:List UInt8,t.length≤b.length∧s = .string ⟨t.toArray⟩∧Hid (dd=t.dropWhile (· == 48))) (fun s=>strLen s)
    case atStart=>exact ⟨b,Nat.le_refl _,rfl,hd⟩
    case round =>
     obtain ⟨t,ht,rfl,hp⟩:=hrel
     clear hd
     by_cases hlt:0 < t.length
     ·have hsz:0 < (⟨t.toArray⟩:ByteArray).size:=by rw [str_size];exact hlt
      have hgk:=Lib.hid (str_get t 0 hsz)
      have h1:(1:Int)≤t.length:=by omega
      by_cases n1:(((⟨t.toArray⟩:ByteArray)[0]'hsz).toNat:Int)=48
      ·have e1:Hid (dd=t.tail.dropWhile (· == 48)):=by
        have h2:t.getD 0 0=48:=by rw [← hgk.out];apply UInt8.toNat.inj;rw [show (48:UInt8).toNat=48 from rfl];omega
        show _=_
        rw [hp.out]
        cases t with
        | nil=>simp at hlt
        | cons c r=>simp at h2;subst h2;simp
       clear hgk hp
       have hx:List.take (t.length - 1) t.tail=t.tail:=List.take_of_length_le (by simp)
       go_wp2
       go_round
       case rel=>exact ⟨t.tail,by simp;omega,rfl,e1⟩
       case measure=>simp [strLen,str_size];omega
      ·have e1:Hid (dd=t):=by
        have h2:t.getD 0 0 ≠ 48:=fun h=>by rw [← hgk.out] at h;rw [h] at n1;exact n1 rfl
        show _=_
        rw [hp.out]
        cases t with
        | nil=>simp at hlt
        | cons c r=>simp at h2;simp [h2]
       have e2:(!t.isEmpty)=true:=by cases t with
        | nil=>simp at hlt
        | cons c r=>rfl
       have e3:=Lib.hid e2
       clear hgk hp e2
       go_wp2
       go_ret2
       exact ⟨ret_val (by rw [hn.out,e1.out,e3.out];simp),rfl⟩
     ·have e1:t=[]:=List.eq_nil_of_length_eq_zero (by omega)
      subst e1
      have e1:Hid (dd=[]):=hp.out
      clear hp
      go_wp2
      go_ret2
      exact ⟨ret_val (by rw [hn.out,e1.out];simp),rfl⟩
 ·subst e2
  have hx:List.take (l.length - 1) l.tail=b:=by rw [e1,List.take_of_length_le (by simp)]
  clear e1
  go_enter Tryz.func135,Tryz.ntmps135
  go_wp2
  clear hx
  go_loop [6] (fun i => ∃ k:Nat,k≤b.length∧i = .int .i64 (k:Int)∧Hid (∀ j,j < k→isDig (b.getD j 0)=true)) (fun i=>b.length - (intOf i).toNat)
  case atStart=>exact ⟨0,Nat.zero_le _,rfl,fun j hj=>absurd hj (Nat.not_lt_zero j)⟩
  case round =>
   clear h1 h2
   clear h0
   obtain ⟨k,hk,rfl,hp⟩:=hrel
   by_cases hlt:k < b.length
   ·have hsz:k < (⟨b.toArray⟩:ByteArray).size:=by rw [str_size];exact hlt
    have hgk:=Lib.hid (congrArg UInt8.toNat (str_get b k hsz))
    have hdef:=Lib.hid (isDig_iff (b.getD k 0))
    rw [← hgk.out] at hdef
    by_cases n1:(((⟨b.toArray⟩:ByteArray)[k]'hsz).toNat:Int) < 48
    ·have e1:isDig (b.getD k 0)=false:=by cases hb:isDig (b.getD k 0) with
      | false=>rfl
      | true=>have:=hdef.out.1 hb;omega
     have hs2:=Lib.hid (all_false hlt e1)
     clear hdef hgk e1
     go_wp2
     go_ret2
     exact ⟨ret_val (by rw [hn.out,hd.out,hs2.out];simp),rfl⟩
    ·by_cases n2:(57:Int) < ((⟨b.toArray⟩:ByteArray)[k]'hsz).toNat
     ·have e1:isDig (b.getD k 0)=false:=by cases hb:isDig (b.getD k 0) with
       | false=>rfl
       | true=>have:=hdef.out.1 hb;omega
      have hs2:=Lib.hid (all_false hlt e1)
      clear hdef hgk e1
      go_wp2
      go_ret2
      exact ⟨ret_val (by rw [hn.out,hd.out,hs2.out];simp),rfl⟩
     ·have hs2:=Lib.hid (step_lt (p:=fun j=>isDig (b.getD j 0)=true) hp.out (hdef.out.2 (by omega)))
      clear hdef hgk
      go_wp2
      go_round
      case rel=>exact ⟨k+1,by omega,by go_num,hs2⟩
      case measure=>simp [intOf];omega
   ·obtain rfl:k=b.length:=by omega
    have hs2:=Lib.hid (all_true hp.out)
    have hd:Hid (dd=b.dropWhile (· == 48)):=by show _=_;rw [hd.out,hs2.out];simp
    clear hp hs2 hlt
    go_wp2
    go_loop [4] (fun s => ∃ t:List UInt8,t.length≤b.length∧s = .string ⟨t.toArray⟩∧Hid (dd=t.dropWhile (· == 48))) (fun s=>strLen s)
    case atStart=>exact ⟨b,Nat.le_refl _,rfl,hd⟩
    case round =>
     obtain ⟨t,ht,rfl,hp⟩:=hrel
     clear hd
     by_cases hlt:0 < t.length
     ·have hsz:0 < (⟨t.toArray⟩:ByteArray).size:=by rw [str_size];exact hlt
      have hgk:=Lib.hid (str_get t 0 hsz)
      have h1:(1:Int)≤t.length:=by omega
      by_cases n1:(((⟨t.toArray⟩:ByteArray)[0]'hsz).toNat:Int)=48
      ·have e1:Hid (dd=t.tail.dropWhile (· == 48)):=by
        have h2:t.getD 0 0=48:=by rw [← hgk.out];apply UInt8.toNat.inj;rw [show (48:UInt8).toNat=48 from rfl];omega
        show _=_
        rw [hp.out]
        cases t with
        | nil=>simp at hlt
        | cons c r=>simp at h2;subst h2;simp
       clear hgk hp
       have hx:List.take (t.length - 1) t.tail=t.tail:=List.take_of_length_le (by simp)
       go_wp2
       go_round
       case rel=>exact ⟨t.tail,by simp;omega,rfl,e1⟩
       case measure=>simp [strLen,str_size];omega
      ·have e1:Hid (dd=t):=by
        have h2:t.getD 0 0 ≠ 48:=fun h=>by rw [← hgk.out] at h;rw [h] at n1;exact n1 rfl
        show _=_
        rw [hp.out]
        cases t with
        | nil=>simp at hlt
        | cons c r=>simp at h2;simp [h2]
       have e2:(!t.isEmpty)=true:=by cases t with
        | nil=>simp at hlt
        | cons c r=>rfl
       have e3:=Lib.hid e2
       clear hgk hp e2
       go_wp2
       go_ret2
       exact ⟨ret_val (by rw [hn.out,e1.out,e3.out];simp),rfl⟩
     ·have e1:t=[]:=List.eq_nil_of_length_eq_zero (by omega)
      subst e1
      have e1:Hid (dd=[]):=hp.out
      clear hp
      go_wp2
      go_ret2
      exact ⟨ret_val (by rw [hn.out,e1.out];simp),rfl⟩
 ·subst e2
  subst e1
  replace h1:((((⟨b.toArray⟩:ByteArray)[0]'h0).toNat:Int) == 45)=false:=by simpa using h1
  go_enter Tryz.func135,Tryz.ntmps135
  go_wp2
  have h2:True:=trivial
  go_loop [6] (fun i => ∃ k:Nat,k≤b.length∧i = .int .i64 (k:Int)∧Hid (∀ j,j < k→isDig (b.getD j 0)=true)) (fun i=>b.length - (intOf i).toNat)
  case atStart=>exact ⟨0,Nat.zero_le _,rfl,fun j hj=>absurd hj (Nat.not_lt_zero j)⟩
  case round =>
   clear h2
   clear h1
   clear h0
   obtain ⟨k,hk,rfl,hp⟩:=hrel
   by_cases hlt:k < b.length
   ·have hsz:k < (⟨b.toArray⟩:ByteArray).size:=by rw [str_size];exact hlt
    have hgk:=Lib.hid (congrArg UInt8.toNat (str_get b k hsz))
    have hdef:=Lib.hid (isDig_iff (b.getD k 0))
    rw [← hgk.out] at hdef
    by_cases n1:(((⟨b.toArray⟩:ByteArray)[k]'hsz).toNat:Int) < 48
    ·have e1:isDig (b.getD k 0)=false:=by cases hb:isDig (b.getD k 0) with
      | false=>rfl
      | true=>have:=hdef.out.1 hb;omega
     have hs2:=Lib.hid (all_false hlt e1)
     clear hdef hgk e1
     go_wp2
     go_ret2
     exact ⟨ret_val (by rw [hn.out,hd.out,hs2.out];simp),rfl⟩
    ·by_cases n2:(57:Int) < ((⟨b.toArray⟩:ByteArray)[k]'hsz).toNat
     ·have e1:isDig (b.getD k 0)=false:=by cases hb:isDig (b.getD k 0) with
       | false=>rfl
       | true=>have:=hdef.out.1 hb;omega
      have hs2:=Lib.hid (all_false hlt e1)
      clear hdef hgk e1
      go_wp2
      go_ret2
      exact ⟨ret_val (by rw [hn.out,hd.out,hs2.out];simp),rfl⟩
     ·have hs2:=Lib.hid (step_lt (p:=fun j=>isDig (b.getD j 0)=true) hp.out (hdef.out.2 (by omega)))
      clear hdef hgk
      go_wp2
      go_round
      case rel=>exact ⟨k+1,by omega,by go_num,hs2⟩
      case measure=>simp [intOf];omega
   ·obtain rfl:k=b.length:=by omega
    have hs2:=Lib.hid (all_true hp.out)
    have hd:Hid (dd=b.dropWhile (· == 48)):=by show _=_;rw [hd.out,hs2.out];simp
    clear hp hs2 hlt
    go_wp2
    go_loop [4] (fun s => ∃ t:List UInt8,t.length≤b.length∧s = .string ⟨t.toArray⟩∧Hid (dd=t.dropWhile (· == 48))) (fun s=>strLen s)
    case atStart=>exact ⟨b,Nat.le_refl _,rfl,hd⟩
    case round =>
     obtain ⟨t,ht,rfl,hp⟩:=hrel
     clear hd
     by_cases hlt:0 < t.length
     ·have hsz:0 < (⟨t.toArray⟩:ByteArray).size:=by rw [str_size];exact hlt
      have hgk:=Lib.hid (str_get t 0 hsz)
      have h1:(1:Int)≤t.length:=by omega
      by_cases n1:(((⟨t.toArray⟩:ByteArray)[0]'hsz).toNat:Int)=48
      ·have e1:Hid (dd=t.tail.dropWhile (· == 48)):=by
        have h2:t.getD 0 0=48:=by rw [← hgk.out];apply UInt8.toNat.inj;rw [show (48:UInt8).toNat=48 from rfl];omega
        show _=_
        rw [hp.out]
        cases t with
        | nil=>simp at hlt
        | cons c r=>simp at h2;subst h2;simp
       clear hgk hp
       have hx:List.take (t.length - 1) t.tail=t.tail:=List.take_of_length_le (by simp)
       go_wp2
       go_round
       case rel=>exact ⟨t.tail,by simp;omega,rfl,e1⟩
       case measure=>simp [strLen,str_size];omega
      ·have e1:Hid (dd=t):=by
        have h2:t.getD 0 0 ≠ 48:=fun h=>by rw [← hgk.out] at h;rw [h] at n1;exact n1 rfl
        show _=_
        rw [hp.out]
        cases t with
        | nil=>simp at hlt
        | cons c r=>simp at h2;simp [h2]
       have e2:(!t.isEmpty)=true:=by cases t with
        | nil=>simp at hlt
        | cons c r=>rfl
       have e3:=Lib.hid e2
       clear hgk hp e2
       go_wp2
       go_ret2
       exact ⟨ret_val (by rw [hn.out,e1.out,e3.out];simp),rfl⟩
     ·have e1:t=[]:=List.eq_nil_of_length_eq_zero (by omega)
      subst e1
      have e1:Hid (dd=[]):=hp.out
      clear hp
      go_wp2
      go_ret2
      exact ⟨ret_val (by rw [hn.out,e1.out];simp),rfl⟩
theorem RCanonical_any (l:List UInt8) (w:World) (hl:l.length≤9000000000000000000) :
  Calls Tryz.prog 134 #[.string ⟨l.toArray⟩] w fun e w'=>e = .returned (.string ⟨(canon (val l)).toArray⟩)∧w=w':=by
 have H:=Lib.hid (fun W=>rdigits_any l W hl)
 have hc:=Lib.hid (canon_val l)
 have hdl:=digs_le l
 generalize canon (val l)=c at *
 generalize digs l=d at *
 generalize negs l=n at *
 cases n
 all_goals
  go_enter Tryz.func134,Tryz.ntmps134
  go_wp2_with (go_at_call 135;refine (H.out _).mono ?_;rintro e w1 ⟨rfl,rfl⟩)
  go_ret
  exact ⟨ret_val (by rw [hc.out];simp),rfl⟩
theorem nat_len_lt (d d2:List UInt8) (h:d.length < d2.length) (h1:d.all isDig=true) (h2:d2.all isDig=true) (h3:d2.head? ≠ some 48):nat d < nat d2:=by
 cases d2 with
 | nil=>simp at h
 | cons c r =>
  simp only [List.all_cons,Bool.and_eq_true] at h2
  have hc:=(isDig_iff c).1 h2.1
  have hne:c.toNat ≠ 48:=fun e=>h3 (by simp;exact UInt8.toNat.inj e)
  have hn:=nat_lt d h1
  have hp:10 ^ d.length≤10 ^ r.length:=Nat.pow_le_pow_right (by decide) (by simp at h;omega)
  rw [nat_cons]
  have:1 * 10 ^ r.length≤(c.toNat - 48) * 10 ^ r.length:=Nat.mul_le_mul_right _ (by omega)
  omega
theorem RCheck_any (l:List UInt8) (w:World) (hl:l.length≤9000000000000000000) :
  Calls Tryz.prog 101 #[.string ⟨l.toArray⟩] w fun e w'=>e = .returned (.int .i64 (if isInt l=true then 0 else 1))∧w=w':=by
 have H:=Lib.hid (fun W=>RCanonical_any l W hl)
 have hi:=Lib.hid (show (if isInt l=true then (0:Int) else 1)=if decide (canon (val l)=l)=true then 0 else 1 from rfl)
 generalize canon (val l)=c at *
 generalize (if isInt l=true then (0:Int) else 1)=i at *
 by_cases g:c=l
 ·subst g
  go_enter Tryz.func101,Tryz.ntmps101
  go_wp2_with (go_at_call 134;refine (H.out _).mono ?_;rintro e w1 ⟨rfl,rfl⟩)
  go_ret
  exact ⟨ret_int (by rw [hi.out];simp),rfl⟩
 ·have g':(!c == l)=true:=by simp [g]
  have G:=Lib.hid g
  go_enter Tryz.func101,Tryz.ntmps101
  go_wp2_with (go_at_call 134;refine (H.out _).mono ?_;rintro e w1 ⟨rfl,rfl⟩)
  go_ret
  exact ⟨ret_int (by rw [hi.out];have:=G.out;simp [this]),rfl⟩
theorem bytesLess_nat {d d2:List UInt8} (hl:d.length=d2.length) (h1:d.all isDig=true) (h2:d2.all isDig=true):Op.bytesLess d d2=true ↔ nat d < nat d2:=by
 induction d generalizing d2 with
 | nil=>cases d2 with
  | nil=>simp [Op.bytesLess,nat]
  | cons b r=>simp at hl
 | cons a r ih=>cases d2 with
  | nil=>simp at hl
  | cons b r2 =>
   simp only [List.length_cons,Nat.add_right_cancel_iff] at hl
   simp only [List.all_cons,Bool.and_eq_true] at h1 h2
   have ha:=(isDig_iff a).1 h1.1
   have hb:=(isDig_iff b).1 h2.1
   have hn1:=nat_lt r h1.2
   have hn2:=nat_lt r2 h2.2
   have:=ih hl h1.2 h2.2
   rw [nat_cons,nat_cons,hl]
   rw [hl] at hn1
   generalize 10 ^ r2.length=p at *
   have hlt:a.toNat < b.toNat→(a.toNat - 48) * p+p≤(b.toNat - 48) * p:=fun h=>by
    have:(a.toNat - 48+1) * p≤(b.toNat - 48) * p:=Nat.mul_le_mul_right _ (by omega)
    rw [Nat.add_mul] at this;omega
   have hgt:b.toNat < a.toNat→(b.toNat - 48) * p+p≤(a.toNat - 48) * p:=fun h=>by
    have:(b.toNat - 48+1) * p≤(a.toNat - 48) * p:=Nat.mul_le_mul_right _ (by omega)
    rw [Nat.add_mul] at this;omega
   rcases Nat.lt_trichotomy a.toNat b.toNat with h | h | h
   ·have:=hlt h
    have e:Op.bytesLess (a :: r) (b :: r2)=true:=by simp [Op.bytesLess];exact .inl (UInt8.lt_iff_toNat_lt.2 h)
    rw [e];simp;omega
   ·have e:a=b:=UInt8.toNat.inj h
    subst e
    have e:Op.bytesLess (a :: r) (a :: r2)=Op.bytesLess r r2:=by simp [Op.bytesLess]
    rw [e,this];omega
   ·have:=hgt h
    have e:Op.bytesLess (a :: r) (b :: r2)=false:=by simp [Op.bytesLess];exact ⟨UInt8.le_iff_toNat_le.2 (by omega),fun e=>by rw [e] at h;omega⟩
    rw [e];simp;omega
theorem bytesLess_self (d:List UInt8):Op.bytesLess d d=false:=by
 induction d with
 | nil=>rfl
 | cons a r ih=>simp [Op.bytesLess,ih]
theorem c_lt {a b:Int} (h:a < b):-1=cmpI a b:=by unfold cmpI;rw [if_pos h]
theorem c_gt {a b:Int} (h:b < a):1=cmpI a b:=by unfold cmpI;rw [if_neg (by omega),if_pos h]
theorem c_eq {a b:Int} (h:a=b):0=cmpI a b:=by unfold cmpI;rw [if_neg (by omega),if_neg (by omega)]
theorem RCompare_any (l m:List UInt8) (w:World) (hl:l.length≤9000000000000000000) (hm:m.length≤9000000000000000000) :
  Calls Tryz.prog 103 #[.string ⟨l.toArray⟩,.string ⟨m.toArray⟩] w fun e w'=>e = .returned (.int .i64 (cmpI (val l) (val m)))∧w=w':=by
 have H1:=Lib.hid (fun W=>rdigits_any l W hl)
 have H2:=Lib.hid (fun W=>rdigits_any m W hm)
 have hdl:=digs_le l
 have hdm:=digs_le m
 rw [val_sgn l,val_sgn m]
 have hL:=Lib.hid (fun h=>bytesLess_nat (d:=digs l) (d2:=digs m) h (digs_dig l) (digs_dig m))
 have hS:=Lib.hid (fun h=>nat_len_lt (digs l) (digs m) h (digs_dig l) (digs_dig m) (digs_head m))
 have hT:=Lib.hid (fun h=>nat_len_lt (digs m) (digs l) h (digs_dig m) (digs_dig l) (digs_head l))
 have hI:Hid (nat (digs l)=nat (digs m)→digs l=digs m):=fun h=>by rw [digs_canonN l,digs_canonN m,h]
 have p1:=Lib.hid (fun h=>negs_pos (l:=l) h)
 have p2:=Lib.hid (fun h=>negs_pos (l:=m) h)
 generalize digs l=d at *
 generalize digs m=d2 at *
 generalize negs l=n at *
 generalize negs m=n2 at *
 have hc:(Hid (nat d < nat d2)∧d.length < d2.length)∨(Hid (nat d < nat d2)∧d.length=d2.length∧Op.bytesLess d d2=true)∨(Hid (nat d=nat d2)∧d=d2)∨(Hid (nat d2 < nat d)∧d2.length < d.length)∨(Hid (nat d2 < nat d)∧d.length=d2.length∧Op.bytesLess d d2=false∧(!d == d2)=true):=by
  have q1:=hL.out
  have q2:=hS.out
  have q3:=hT.out
  rcases Nat.lt_trichotomy (nat d) (nat d2) with h | h | h
  ·rcases Nat.lt_trichotomy d.length d2.length with g | g | g
   ·exact .inl ⟨h,g⟩
   ·exact .inr (.inl ⟨h,g,(q1 g).2 h⟩)
   ·have:=q3 g;omega
  ·exact .inr (.inr (.inl ⟨h,hI.out h⟩))
  ·rcases Nat.lt_trichotomy d.length d2.length with g | g | g
   ·have:=q2 g;omega
   ·refine .inr (.inr (.inr (.inr ⟨h,g,?_,?_⟩)))
    ·cases hb:Op.bytesLess d d2 with
     | false=>rfl
     | true=>have:=(q1 g).1 hb;omega
    ·simp;intro e;subst e;omega
   ·exact .inr (.inr (.inr (.inl ⟨h,g⟩)))
 clear hL hS hT hI
 rcases hc with ⟨F,g⟩ | ⟨F,g,g2⟩ | ⟨F,g⟩ | ⟨F,g⟩ | ⟨F,g,g2,g3⟩
 ·have g1:¬ d.length=d2.length:=by omega
  have g2:(d.length:Int) < d2.length:=by omega
  cases n <;> cases n2
  all_goals
   go_enter Tryz.func103,Tryz.ntmps103
   go_wp2_with fail
   refine (H1.out _).mono ?_
   rintro e w1 ⟨rfl,rfl⟩
   go_wp2_with fail
   refine (H2.out _).mono ?_
   rintro e w1 ⟨rfl,rfl⟩
   go_wp2
   all_goals go_ret
   all_goals refine ⟨ret_int ?_,rfl⟩
   all_goals first | exact c_lt (by have q1:=F.out;have q2:=p1.out;have q3:=p2.out;try simp at q2;try simp at q3;simp only [sgn,if_true,Bool.false_eq_true,if_false];omega) | exact c_gt (by have q1:=F.out;have q2:=p1.out;have q3:=p2.out;try simp at q2;try simp at q3;simp only [sgn,if_true,Bool.false_eq_true,if_false];omega)
 ·cases n <;> cases n2
  all_goals
   go_enter Tryz.func103,Tryz.ntmps103
   go_wp2_with fail
   refine (H1.out _).mono ?_
   rintro e w1 ⟨rfl,rfl⟩
   go_wp2_with fail
   refine (H2.out _).mono ?_
   rintro e w1 ⟨rfl,rfl⟩
   go_wp2
   all_goals go_ret
   all_goals refine ⟨ret_int ?_,rfl⟩
   all_goals first | exact c_lt (by have q1:=F.out;have q2:=p1.out;have q3:=p2.out;try simp at q2;try simp at q3;simp only [sgn,if_true,Bool.false_eq_true,if_false];omega) | exact c_gt (by have q1:=F.out;have q2:=p1.out;have q3:=p2.out;try simp at q2;try simp at q3;simp only [sgn,if_true,Bool.false_eq_true,if_false];omega)
 ·subst g
  have g2:=bytesLess_self d
  cases n <;> cases n2
  all_goals
   go_enter Tryz.func103,Tryz.ntmps103
   go_wp2_with fail
   refine (H1.out _).mono ?_
   rintro e w1 ⟨rfl,rfl⟩
   go_wp2_with fail
   refine (H2.out _).mono ?_
   rintro e w1 ⟨rfl,rfl⟩
   go_wp2
   all_goals go_ret
   all_goals refine ⟨ret_int ?_,rfl⟩
   all_goals first | exact c_eq rfl | exact c_lt (by have q1:=F.out;have q2:=p1.out;have q3:=p2.out;try simp at q2;try simp at q3;simp only [sgn,if_true,Bool.false_eq_true,if_false];omega) | exact c_gt (by have q1:=F.out;have q2:=p1.out;have q3:=p2.out;try simp at q2;try simp at q3;simp only [sgn,if_true,Bool.false_eq_true,if_false];omega)
 ·have g1:¬ d.length=d2.length:=by omega
  have g2:¬ (d.length:Int) < d2.length:=by omega
  cases n <;> cases n2
  all_goals
   go_enter Tryz.func103,Tryz.ntmps103
   go_wp2_with fail
   refine (H1.out _).mono ?_
   rintro e w1 ⟨rfl,rfl⟩
   go_wp2_with fail
   refine (H2.out _).mono ?_
   rintro e w1 ⟨rfl,rfl⟩
   go_wp2
   all_goals go_ret
   all_goals refine ⟨ret_int ?_,rfl⟩
   all_goals first | exact c_lt (by have q1:=F.out;have q2:=p1.out;have q3:=p2.out;try simp at q2;try simp at q3;simp only [sgn,if_true,Bool.false_eq_true,if_false];omega) | exact c_gt (by have q1:=F.out;have q2:=p1.out;have q3:=p2.out;try simp at q2;try simp at q3;simp only [sgn,if_true,Bool.false_eq_true,if_false];omega)
 ·cases n <;> cases n2
  all_goals
   go_enter Tryz.func103,Tryz.ntmps103
   go_wp2_with fail
   refine (H1.out _).mono ?_
   rintro e w1 ⟨rfl,rfl⟩
   go_wp2_with fail
   refine (H2.out _).mono ?_
   rintro e w1 ⟨rfl,rfl⟩
   go_wp2
   all_goals go_ret
   all_goals refine ⟨ret_int ?_,rfl⟩
   all_goals first | exact c_lt (by have q1:=F.out;have q2:=p1.out;have q3:=p2.out;try simp at q2;try simp at q3;simp only [sgn,if_true,Bool.false_eq_true,if_false];omega) | exact c_gt (by have q1:=F.out;have q2:=p1.out;have q3:=p2.out;try simp at q2;try simp at q3;simp only [sgn,if_true,Bool.false_eq_true,if_false];omega)
end
section
open Go.RowKit Num
attribute [local go_sem] str_append str_extract str_size
def Lots (w:World) (a:Option Addr) (ls:List LotP):Prop :=
 ls=[]∨∃ b off,a=some ⟨b,off,none⟩∧b < w.heap.size∧∀ k x,ls[k]? = some x →
  w.cell? ⟨b,off+k * 7,none⟩=some (str x.id)∧w.cell? ⟨b,off+k * 7+1,none⟩=some (str x.ins)∧w.cell? ⟨b,off+k * 7+2,none⟩=some (.int .i64 x.acq)∧w.cell? ⟨b,off+k * 7+3,none⟩=some (.int .i64 x.opn) ∧
  w.cell? ⟨b,off+k * 7+4,none⟩=some (str x.q)∧w.cell? ⟨b,off+k * 7+5,none⟩=some (str x.c)∧w.cell? ⟨b,off+k * 7+6,none⟩=some (str x.u)
theorem Lots.below {w w':World} {a:Option Addr} {ls:List LotP} (h:Lots w a ls) (hb:Below w.heap.size w w'):Lots w' a ls:=by
 rcases h with h | ⟨b,off,ha,hlt,hc⟩
 ·exact .inl h
 ·have hcell:∀ o,w'.cell? ⟨b,o,none⟩=w.cell? ⟨b,o,none⟩:=fun o=>hb.cell (p:=⟨b,o,none⟩) hlt
  refine .inr ⟨b,off,ha,Nat.lt_of_lt_of_le hlt hb.size,fun k x hx => ?_⟩
  simp only [hcell]
  exact hc k x hx
theorem Lots.addr {w:World} {a:Option Addr} {ls:List LotP} (h:Lots w a ls) {k:Nat} {x:LotP} (hx:ls[k]? = some x) :
  ∃ b off,a=some ⟨b,off,none⟩ ∧
  w.cell? ⟨b,off+k * 7,none⟩=some (str x.id)∧w.cell? ⟨b,off+k * 7+1,none⟩=some (str x.ins)∧w.cell? ⟨b,off+k * 7+2,none⟩=some (.int .i64 x.acq)∧w.cell? ⟨b,off+k * 7+3,none⟩=some (.int .i64 x.opn) ∧
  w.cell? ⟨b,off+k * 7+4,none⟩=some (str x.q)∧w.cell? ⟨b,off+k * 7+5,none⟩=some (str x.c)∧w.cell? ⟨b,off+k * 7+6,none⟩=some (str x.u):=by
 rcases h with h | ⟨b,off,ha,_,hc⟩
 ·rw [h] at hx;simp at hx
 ·exact ⟨b,off,ha,hc k x hx⟩
end
section
open Go.RowKit Num
attribute [local go_sem] str_append str_extract str_size
def LotP.fits (x:LotP):Prop:=x.id.length≤9223372036854775807∧x.ins.length≤9223372036854775807∧x.q.length≤9223372036854775807∧x.c.length≤9223372036854775807∧x.u.length≤9223372036854775807
def LotP.small (x:LotP):Prop:=x.id.length≤1000∧x.ins.length≤1000∧x.q.length≤1000∧x.c.length≤1000∧x.u.length≤1000
theorem Lots.take {w:World} {a:Option Addr} {ls:List LotP} (h:Lots w a ls) (k:Nat):Lots w a (ls.take k):=by
 rcases h with h | ⟨b,off,ha,hlt,hc⟩
 ·exact .inl (by rw [h];simp)
 ·refine .inr ⟨b,off,ha,hlt,fun j x hx=>hc j x ?_⟩
  rw [List.getElem?_take] at hx
  split at hx
  ·exact hx
  ·cases hx
end
section
open Go.RowKit Num
theorem times_row (x y:Nat) (a a':Option Addr) (cap cap':Nat) (w:World) (h1:(groupsOf x).length≤100000000000) (h2:(groupsOf y).length≤100000000000)
  (hr:Row w a (gs (groupsOf x))) (hr':Row w a' (gs (groupsOf y))) :
  Calls Tryz.prog 232 #[.slice a (groupsOf x).length cap,.slice a' (groupsOf y).length cap'] w fun e w' => ∃ b c,e = .returned (.slice b (groupsOf (x * y)).length c)∧(groupsOf (x * y)).length≤c∧Row w' b (gs (groupsOf (x * y)))∧Below w.heap.size w w':=by
 refine (times_any x y a a' cap cap' w h1 h2 hr hr').mono ?_
 rintro e w' ⟨b,c,rfl,hc,_,_,⟨z,hG,_⟩,hb⟩
 have h:=hG.row
 rw [gs_append] at h
 exact ⟨_,c,rfl,hc,h.take,hb⟩
theorem sgn_mul (nx ny:Bool) (x y:Nat):sgn nx x * sgn ny y=sgn (nx != ny) (x * y):=by
 cases nx <;> cases ny <;> simp [sgn,Int.neg_mul,Int.mul_neg]
theorem txt_sgn (n:Bool) (x:Nat):txt n x=canon (sgn n x):=txt_canon n x
theorem Mul_any (l m:List UInt8) (w:World) (hE:Env w) (hl:l.length≤10000000000) (hm:m.length≤10000000000) :
  Calls Tryz.prog 201 #[.string ⟨l.toArray⟩,.string ⟨m.toArray⟩] w fun e w'=>e = .returned (.string ⟨(canon (val l * val m)).toArray⟩)∧Below w.heap.size w w':=by
 have H1:=Lib.hid (fun W=>read_any l W (by omega))
 have H2:=Lib.hid (fun W=>read_any m W (by omega))
 have g1:=groups_le l
 have g2:=groups_le m
 rw [val_sgn l,val_sgn m,sgn_mul,← txt_sgn]
 generalize nat (digs l)=x at *
 generalize nat (digs m)=y at *
 generalize negs l=nx at *
 generalize negs m=ny at *
 have H3:=Lib.hid (times_row x y)
 have HG:=Lib.hid (And.intro g1 (And.intro g2 (times_len x y)))
 have HE:=Lib.hid hE
 clear hE g1 g2
 go_enter Tryz.func201,Tryz.ntmps201
 go_wp2_with fail
 refine (H1.out _).mono ?_
 rintro e w1 ⟨a,c,rfl,hc,hf,hr,hb⟩
 go_wp2_with fail
 refine (H2.out _).mono ?_
 rintro e w2 ⟨a',c',rfl,hc',hf',hr',hb'⟩
 have HX:=Lib.hid (fun o1 o2 n=>show Below w2.heap.size w2 (((w2.alloc o1).alloc o2).drewN n) from below_drewN (((Below.refl _ _).alloc (Nat.le_refl _) _).alloc (by simp) _) n)
 have HR:=Lib.hid (And.intro (hr.below hb') hr')
 clear hr hr'
 go_wp2_with fail
 go_region_held3 (fun W=>W.cell? ⟨w2.heap.size,0,none⟩=some (.bool nx)∧W.cell? ⟨w2.heap.size+1,0,none⟩=some (.bool ny)∧W.cell? ⟨w2.heap.size,1,none⟩=some (.slice a (groupsOf x).length c)∧W.cell? ⟨w2.heap.size+1,1,none⟩=some (.slice a' (groupsOf y).length c'))
  (first | exact ⟨k0,k1,k2,k3⟩ | exact ⟨(hb4.cell (p:=⟨w2.heap.size,0,none⟩) hk).trans k0,(hb4.cell (p:=⟨w2.heap.size+1,0,none⟩) hk').trans k1,(hb4.cell (p:=⟨w2.heap.size,1,none⟩) hk).trans k2,(hb4.cell (p:=⟨w2.heap.size+1,1,none⟩) hk').trans k3⟩ | go_keep)
  (first | (go_at_call 232;refine (H3.out a a' c c' _ (by have:=HG.out;omega) (by have:=HG.out;omega) (HR.out.1.below (HX.out _ _ _)) (HR.out.2.below (HX.out _ _ _))).mono ?_;rintro e w3 ⟨b3,c3,rfl,hc3,hr3,hb3⟩;have q:=boxes2 (n:=1) hb3;have k0:=cell_at q.1 0;have k2:=cell_at q.1 1;have k1:=cell_at q.2 0;have k3:=cell_at q.2 1;have hk:w2.heap.size < w3.heap.size:=(Array.getElem?_eq_some_iff.1 q.1).1;have hk':w2.heap.size+1 < w3.heap.size:=(Array.getElem?_eq_some_iff.1 q.2).1;have hbw3:=below_up (below_up (below_up hb hb') (HX.out _ _ 1)) hb3;clear q hb3) | (go_at_call 168;refine (text_any (x * y) (nx != ny) b3 c3 _ (HE.out.below hbw3) hc3 (by have:=HG.out;omega) hr3).mono ?_;rintro e w4 ⟨rfl,hb4⟩))
 go_wp2
 go_ret
 exact ⟨rfl,below_up hbw3 hb4⟩
theorem Neg_any (l:List UInt8) (w:World) (hE:Env w) (hl:l.length≤10000000000) :
  Calls Tryz.prog 207 #[.string ⟨l.toArray⟩] w fun e w'=>e = .returned (.string ⟨(canon (-val l)).toArray⟩)∧Below w.heap.size w w':=by
 have H1:=Lib.hid (fun W=>read_any l W (by omega))
 have g1:=groups_le l
 rw [val_sgn l,← sgn_not,← txt_sgn]
 generalize nat (digs l)=x at *
 generalize negs l=nx at *
 have HG:=Lib.hid g1
 have HE:=Lib.hid hE
 clear hE g1
 go_enter Tryz.func207,Tryz.ntmps207
 go_wp2_with fail
 refine (H1.out _).mono ?_
 rintro e w1 ⟨a,c,rfl,hc,hf,hr,hb⟩
 have HR:=Lib.hid hr
 have HX:=Lib.hid (fun o=>show Below w1.heap.size w1 (w1.alloc o) from (Below.refl _ _).alloc (Nat.le_refl _) _)
 clear hr
 go_wp2_with fail
 refine (text_any x (!nx) a c _ (HE.out.below (below_up hb (HX.out _))) hc (by have:=HG.out;omega) (HR.out.below (HX.out _))).mono ?_
 rintro e w4 ⟨rfl,hb4⟩
 go_wp2
 go_ret
 exact ⟨rfl,below_up (below_up hb (HX.out _)) hb4⟩
end
end Go.Proofs.YtgopbldkhlmbnaaGreatDoor
