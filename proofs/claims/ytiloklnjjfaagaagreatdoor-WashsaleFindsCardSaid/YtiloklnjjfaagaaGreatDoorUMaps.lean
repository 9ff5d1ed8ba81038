/- Maps Ref01 Ref19 Lots Mul -/
import Derived.Test.YtiloklnjjfaagaaGreatDoorUAdd
import Derived.Test.YtiloklnjjfaagaaGreatDoorUDivide
import Derived.RangeFuncKeeps
set_option maxHeartbeats 16000000
set_option maxRecDepth 100000
namespace Go.Proofs.YtiloklnjjfaagaaGreatDoor
open Tryz
section
open Go Go.RowKit
def eL(w:World)(b:Nat)(kvs:List (Int×Value)):Prop :=
 ∃es clock,w.heap[b]?=some (.map es clock)/\es.toList.map (fun e=>(e.key,e.val))=kvs.map (fun p=>(Value.int .i64 p.1,p.2))
theorem eL.lt{w:World}{b:Nat}{kvs:List (Int×Value)}(h:eL w b kvs):b<w.heap.size:=by
 obtain⟨es,clock,hb,_⟩:=h;exact(Ai.1 hb).1
theorem eL.below{w w':World}{b:Nat}{kvs:List (Int×Value)}(h:eL w b kvs)(hb:Below w.heap.size w w'):eL w' b kvs:=by
 have hl:=h.lt;obtain⟨es,clock,hh,he⟩:=h;exact⟨es,clock,(hb.block b hl).trans hh,he⟩
theorem eL.new(w:World):eL (w.alloc (.map #[] 0)) w.heap.size []:=⟨#[],0,heap_alloc_new w _,rfl⟩
theorem tQ{es:Array MapEntry}{kvs:List (Int×Value)}(h:es.toList.map (fun e=>(e.key,e.val))=kvs.map (fun p=>(Value.int .i64 p.1,p.2))){x:MapEntry}(hx:x∈es.toList):∃p∈kvs,x.key=.int .i64 p.1/\x.val=p.2:=by
 have:(x.key,x.val)∈es.toList.map (fun e=>(e.key,e.val)):=List.mem_map.2 ⟨x,hx,rfl⟩;rw[h] at this;obtain⟨p,hp,e⟩:=List.mem_map.1 this;injection e with e1 e2
 exact⟨p,hp,e1.symm,e2.symm⟩
theorem jW{q:IntKind}{n:Int}:MapKept.IsKey (.int q) (.int q n):=by simp[MapKept.IsKey]
theorem qC{P:Program}{w:World}{b:Nat}{kvs:List (Int×Value)}{t kt et:TypeId}(hm:P.underlying t=some (.map kt et))(hk:P.underlying kt=some (.int .i64))(h:eL w b kvs)(k:Int)(v:Value)(hne:∀p∈kvs,p.1≠k):
  ∃w',(Instr.mapUpdate t (.map (some b)) (.int .i64 k) v).run P w=.ok () w'/\eL w' b (kvs ++ [(k,v)])/\w.grownBy w' (some b)/\w'.heap.size=w.heap.size:=by
 obtain⟨es,clock,hb,he⟩:=h;have hks:∀x∈es.toList,MapKept.IsKey (.int .i64) x.key:=fun x hx=>by
  obtain⟨p,_,e,_⟩:=tQ he hx;rw[e];exact jW
 have hf:Instr.findNow (.int .i64) (.int .i64 k) es.toList 0=some none:=by
  rcases MapKept.findNow_spec (k:=.int .i64 k) jW es.toList 0 hks with⟨h1,_⟩|⟨j,e,_,h2,h3⟩
  ·exact h1
  ·exfalso;obtain⟨p,hp,e1,_⟩:=tQ he (List.mem_of_getElem? h2);rw[e1] at h3;injection h3 with _ h4
   exact hne p hp h4
 have hc:(Instr.checkKey false 10000 kt (.int .i64 k)).run P w=.ok () w:=MapKept.run_checkKey hk jW false 9999;refine⟨w.putObj b (.map (es.push { key:=.int .i64 k,val:=v,born:=clock }) (clock+1)),?_,⟨_,_,World.putObj_heap_same (Ai.1 hb).1,?_⟩,grownBy_putObj' w b _,by simp[World.putObj]⟩
 ·simp[Instr.mapUpdate,run_underlying hm,MapKept.run_getObj_map hb,hc,MapKept.run_findKey hk hf,MapKept.run_setObj_map _ hb,Result.andThen];rfl
 ·simp[he]
theorem eL.kept{w w':World}{b b':Nat}{kvs:List (Int×Value)}(h:eL w b kvs)(hg:w.grownBy w' (some b'))(hne:b≠b'):eL w' b kvs:=by
 have hl:=h.lt;obtain⟨es,clock,hh,he⟩:=h;exact⟨es,clock,(hg.block b hl (by intro e;injection e with e;exact hne e)).trans hh,he⟩
theorem aP.kept{w w':World}{b b':Nat}{cs:Array Value}{T:TypeId}(h:aP w b cs T)(hg:w.grownBy w' (some b'))(hne:b≠b'):aP w' b cs T :=
 ⟨Nat.lt_of_lt_of_le h.1 hg.size,(hg.block b h.1 (by intro e;injection e with e;exact hne e)).trans h.2⟩
end
section
open Go.RowKit Num
attribute [local go_sem] eW eN aV
def uS:Value->Nat
 | .string b=>b.size
 |_=>0
theorem fR(l:List UInt8)(w:World)(hl:l.length<=9000000000000000000):
  Calls prog 149 #[.string ⟨l.toArray⟩] w fun e w'=>e=.returned (.tuple #[.string ⟨(aZ l).toArray⟩,.bool (dD l)])/\w=w':=by
 have hd:=Hd (show aZ l=if(body l).all bF=true then(body l).dropWhile (· == 48) else[] from rfl);have hn:=Hd (show dD l=(jS l && !(aZ l).isEmpty) from rfl);have hbl:=uG l;have hc:(l.length=0/\body l=l/\jS l=false)∨(∃h:0<(⟨l.toArray⟩:ByteArray).size,(((⟨l.toArray⟩:ByteArray)[0]'h).toNat:Int)=45/\body l=l.tail/\jS l=true)∨(∃h:0<(⟨l.toArray⟩:ByteArray).size,¬ (((⟨l.toArray⟩:ByteArray)[0]'h).toNat:Int)=45/\body l=l/\jS l=false):=by
  cases l with
  |nil=>exact .inl ⟨rfl,rfl,rfl⟩
  |cons c r =>
   have h0:0<(⟨(c::r).toArray⟩:ByteArray).size:=by rw[aV];simp
   have hg:=gF (c::r) 0 h0;simp only[List.getD_cons_zero] at hg
   by_cases h:c=45
   ·refine .inr (.inl ⟨h0,by rw[hg,h];rfl,?_,?_⟩)
    ·unfold body;simp[h]
    ·unfold jS;simp[h]
   ·refine .inr (.inr ⟨h0,?_,?_,?_⟩)
    ·rw[hg];intro h2;exact h (UInt8.toNat.inj (by rw[show (45:UInt8).toNat=45 from rfl];omega))
    ·unfold body;simp[h]
    ·unfold jS;simp[h]
 generalize dD l=nn at *;generalize aZ l=dd at *;generalize hb:body l=b at *;generalize jS l=mi at *;clear hb;have hc':(l.length=0/\b=l/\mi=false)∨(∃h:0<(⟨l.toArray⟩:ByteArray).size,(((⟨l.toArray⟩:ByteArray)[0]'h).toNat:Int)=45/\b=l.tail/\mi=true/\(1:Int)<=l.length)∨(∃h:0<(⟨l.toArray⟩:ByteArray).size,¬ (((⟨l.toArray⟩:ByteArray)[0]'h).toNat:Int)=45/\b=l/\mi=false):=by
  rcases hc with h|⟨h1,h2,h3,h4⟩|h
  ·exact .inl h
  ·exact .inr (.inl ⟨h1,h2,h3,h4,by rw[aV] at h1;omega⟩)
  ·exact .inr (.inr h)
 clear hc;rcases hc' with⟨h0,e1,e2⟩|⟨h0,h1,e1,e2,h2⟩|⟨h0,h1,e1,e2⟩
 ·subst e2;subst e1;go_enter func149,ntmps149;go_wp2;have h1:True:=trivial;have h2:True:=trivial;go_loop [6] (fun i=>∃k:Nat,k<=b.length/\i=.int .i64 (k:Int)/\Hid (∀j,j<k->bF (b.getD j 0)=true)) (fun i=>b.length-(intOf i).toNat)
  case atStart=>exact⟨0,Nat.zero_le _,rfl,fun j hj=>absurd hj (Nat.not_lt_zero j)⟩
  case round =>
   clear h1 h2;clear h0;obtain⟨k,hk,rfl,hp⟩:=hrel
   by_cases hlt:k<b.length
   ·have hsz:k<(⟨b.toArray⟩:ByteArray).size:=by rw[aV];exact hlt
    have hgk:=Hd (congrArg UInt8.toNat (gF b k hsz));have hdef:=Hd (dO (b.getD k 0));rw[<-hgk.out] at hdef
    by_cases n1:(((⟨b.toArray⟩:ByteArray)[k]'hsz).toNat:Int)<48
    ·have e1:bF (b.getD k 0)=false:=by cases hb:bF (b.getD k 0) with
      |false=>rfl
      |true=>have:=hdef.out.1 hb;omega
     have hs2:=Hd (fP hlt e1);clear hdef hgk e1;go_wp2;go_ret2;exact⟨dW (by rw[hn.out,hd.out,hs2.out];simp),rfl⟩
    ·by_cases n2:(57:Int)<((⟨b.toArray⟩:ByteArray)[k]'hsz).toNat
     ·have e1:bF (b.getD k 0)=false:=by cases hb:bF (b.getD k 0) with
       |false=>rfl
       |true=>have:=hdef.out.1 hb;omega
      have hs2:=Hd (fP hlt e1);clear hdef hgk e1;go_wp2;go_ret2;exact⟨dW (by rw[hn.out,hd.out,hs2.out];simp),rfl⟩
     ·have hs2:=Hd (tD (p:=fun j=>bF (b.getD j 0)=true) hp.out (hdef.out.2 (by omega)));clear hdef hgk;go_wp2;go_round
      case rel=>exact⟨k+1,by omega,by go_num,hs2⟩
      case measure=>simp[intOf];omega
   ·obtain rfl:k=b.length:=by omega
    have hs2:=Hd (oU hp.out);have hd:Hid (dd=b.dropWhile (· == 48)):=by show _=_;rw[hd.out,hs2.out];simp
    clear hp hs2 hlt;go_wp2;go_loop [4] (fun s=>∃t:List UInt8,t.length<=b.length/\s=.string ⟨t.toArray⟩/\Hid (dd=t.dropWhile (· == 48))) (fun s=>uS s)
    case atStart=>exact⟨b,Nl _,rfl,hd⟩
    case round =>
     obtain⟨t,ht,rfl,hp⟩:=hrel;clear hd
     by_cases hlt:0<t.length
     ·have hsz:0<(⟨t.toArray⟩:ByteArray).size:=by rw[aV];exact hlt
      have hgk:=Hd (gF t 0 hsz);have h1:(1:Int)<=t.length:=by omega
      by_cases n1:(((⟨t.toArray⟩:ByteArray)[0]'hsz).toNat:Int)=48
      ·have e1:Hid (dd=t.tail.dropWhile (· == 48)):=by
        have h2:t.getD 0 0=48:=by rw[<-hgk.out];apply UInt8.toNat.inj;rw[show (48:UInt8).toNat=48 from rfl];omega
        show _=_;rw[hp.out];cases t with
        |nil=>simp at hlt
        |cons c r=>simp at h2;subst h2;simp
       clear hgk hp;have hx:List.take (t.length-1) t.tail=t.tail:=List.take_of_length_le (by simp);go_wp2;go_round
       case rel=>exact⟨t.tail,by simp;omega,rfl,e1⟩
       case measure=>simp[uS,aV];omega
      ·have e1:Hid (dd=t):=by
        have h2:t.getD 0 0≠48:=fun h=>by rw[<-hgk.out] at h;rw[h] at n1;exact n1 rfl
        show _=_;rw[hp.out];cases t with
        |nil=>simp at hlt
        |cons c r=>simp at h2;simp[h2]
       have e2:(!t.isEmpty)=true:=by cases t with
        |nil=>simp at hlt
        |cons c r=>rfl
       have e3:=Hd e2;clear hgk hp e2;go_wp2;go_ret2;exact⟨dW (by rw[hn.out,e1.out,e3.out];simp),rfl⟩
     ·have e1:t=[]:=List.eq_nil_of_length_eq_zero (by omega);subst e1;have e1:Hid (dd=[]):=hp.out;clear hp;go_wp2;go_ret2;exact⟨dW (by rw[hn.out,e1.out];simp),rfl⟩
 ·subst e2;have hx:List.take (l.length-1) l.tail=b:=by rw[e1,List.take_of_length_le (by simp)]
  clear e1;go_enter func149,ntmps149;go_wp2;clear hx;go_loop [6] (fun i=>∃k:Nat,k<=b.length/\i=.int .i64 (k:Int)/\Hid (∀j,j<k->bF (b.getD j 0)=true)) (fun i=>b.length-(intOf i).toNat)
  case atStart=>exact⟨0,Nat.zero_le _,rfl,fun j hj=>absurd hj (Nat.not_lt_zero j)⟩
  case round =>
   clear h1 h2;clear h0;obtain⟨k,hk,rfl,hp⟩:=hrel
   by_cases hlt:k<b.length
   ·have hsz:k<(⟨b.toArray⟩:ByteArray).size:=by rw[aV];exact hlt
    have hgk:=Hd (congrArg UInt8.toNat (gF b k hsz));have hdef:=Hd (dO (b.getD k 0));rw[<-hgk.out] at hdef
    by_cases n1:(((⟨b.toArray⟩:ByteArray)[k]'hsz).toNat:Int)<48
    ·have e1:bF (b.getD k 0)=false:=by cases hb:bF (b.getD k 0) with
      |false=>rfl
      |true=>have:=hdef.out.1 hb;omega
     have hs2:=Hd (fP hlt e1);clear hdef hgk e1;go_wp2;go_ret2;exact⟨dW (by rw[hn.out,hd.out,hs2.out];simp),rfl⟩
    ·by_cases n2:(57:Int)<((⟨b.toArray⟩:ByteArray)[k]'hsz).toNat
     ·have e1:bF (b.getD k 0)=false:=by cases hb:bF (b.getD k 0) with
       |false=>rfl
       |true=>have:=hdef.out.1 hb;omega
      have hs2:=Hd (fP hlt e1);clear hdef hgk e1;go_wp2;go_ret2;exact⟨dW (by rw[hn.out,hd.out,hs2.out];simp),rfl⟩
     ·have hs2:=Hd (tD (p:=fun j=>bF (b.getD j 0)=true) hp.out (hdef.out.2 (by omega)));clear hdef hgk;go_wp2;go_round
      case rel=>exact⟨k+1,by omega,by go_num,hs2⟩
      case measure=>simp[intOf];omega
   ·obtain rfl:k=b.length:=by omega
    have hs2:=Hd (oU hp.out);have hd:Hid (dd=b.dropWhile (· == 48)):=by show _=_;rw[hd.out,hs2.out];simp
    clear hp hs2 hlt;go_wp2;go_loop [4] (fun s=>∃t:List UInt8,t.length<=b.length/\s=.string ⟨t.toArray⟩/\Hid (dd=t.dropWhile (· == 48))) (fun s=>uS s)
    case atStart=>exact⟨b,Nl _,rfl,hd⟩
    case round =>
     obtain⟨t,ht,rfl,hp⟩:=hrel;clear hd
     by_cases hlt:0<t.length
     ·have hsz:0<(⟨t.toArray⟩:ByteArray).size:=by rw[aV];exact hlt
      have hgk:=Hd (gF t 0 hsz);have h1:(1:Int)<=t.length:=by omega
      by_cases n1:(((⟨t.toArray⟩:ByteArray)[0]'hsz).toNat:Int)=48
      ·have e1:Hid (dd=t.tail.dropWhile (· == 48)):=by
        have h2:t.getD 0 0=48:=by rw[<-hgk.out];apply UInt8.toNat.inj;rw[show (48:UInt8).toNat=48 from rfl];omega
        show _=_;rw[hp.out];cases t with
        |nil=>simp at hlt
        |cons c r=>simp at h2;subst h2;simp
       clear hgk hp;have hx:List.take (t.length-1) t.tail=t.tail:=List.take_of_length_le (by simp);go_wp2;go_round
       case rel=>exact⟨t.tail,by simp;omega,rfl,e1⟩
       case measure=>simp[uS,aV];omega
      ·have e1:Hid (dd=t):=by
        have h2:t.getD 0 0≠48:=fun h=>by rw[<-hgk.out] at h;rw[h] at n1;exact n1 rfl
        show _=_;rw[hp.out];cases t with
        |nil=>simp at hlt
        |cons c r=>simp at h2;simp[h2]
       have e2:(!t.isEmpty)=true:=by cases t with
        |nil=>simp at hlt
        |cons c r=>rfl
       have e3:=Hd e2;clear hgk hp e2;go_wp2;go_ret2;exact⟨dW (by rw[hn.out,e1.out,e3.out];simp),rfl⟩
     ·have e1:t=[]:=List.eq_nil_of_length_eq_zero (by omega);subst e1;have e1:Hid (dd=[]):=hp.out;clear hp;go_wp2;go_ret2;exact⟨dW (by rw[hn.out,e1.out];simp),rfl⟩
 ·subst e2;subst e1;replace h1:((((⟨b.toArray⟩:ByteArray)[0]'h0).toNat:Int)==45)=false:=by simpa using h1
  go_enter func149,ntmps149;go_wp2;have h2:True:=trivial;go_loop [6] (fun i=>∃k:Nat,k<=b.length/\i=.int .i64 (k:Int)/\Hid (∀j,j<k->bF (b.getD j 0)=true)) (fun i=>b.length-(intOf i).toNat)
  case atStart=>exact⟨0,Nat.zero_le _,rfl,fun j hj=>absurd hj (Nat.not_lt_zero j)⟩
  case round =>
   clear h2;clear h1;clear h0;obtain⟨k,hk,rfl,hp⟩:=hrel
   by_cases hlt:k<b.length
   ·have hsz:k<(⟨b.toArray⟩:ByteArray).size:=by rw[aV];exact hlt
    have hgk:=Hd (congrArg UInt8.toNat (gF b k hsz));have hdef:=Hd (dO (b.getD k 0));rw[<-hgk.out] at hdef
    by_cases n1:(((⟨b.toArray⟩:ByteArray)[k]'hsz).toNat:Int)<48
    ·have e1:bF (b.getD k 0)=false:=by cases hb:bF (b.getD k 0) with
      |false=>rfl
      |true=>have:=hdef.out.1 hb;omega
     have hs2:=Hd (fP hlt e1);clear hdef hgk e1;go_wp2;go_ret2;exact⟨dW (by rw[hn.out,hd.out,hs2.out];simp),rfl⟩
    ·by_cases n2:(57:Int)<((⟨b.toArray⟩:ByteArray)[k]'hsz).toNat
     ·have e1:bF (b.getD k 0)=false:=by cases hb:bF (b.getD k 0) with
       |false=>rfl
       |true=>have:=hdef.out.1 hb;omega
      have hs2:=Hd (fP hlt e1);clear hdef hgk e1;go_wp2;go_ret2;exact⟨dW (by rw[hn.out,hd.out,hs2.out];simp),rfl⟩
     ·have hs2:=Hd (tD (p:=fun j=>bF (b.getD j 0)=true) hp.out (hdef.out.2 (by omega)));clear hdef hgk;go_wp2;go_round
      case rel=>exact⟨k+1,by omega,by go_num,hs2⟩
      case measure=>simp[intOf];omega
   ·obtain rfl:k=b.length:=by omega
    have hs2:=Hd (oU hp.out);have hd:Hid (dd=b.dropWhile (· == 48)):=by show _=_;rw[hd.out,hs2.out];simp
    clear hp hs2 hlt;go_wp2;go_loop [4] (fun s=>∃t:List UInt8,t.length<=b.length/\s=.string ⟨t.toArray⟩/\Hid (dd=t.dropWhile (· == 48))) (fun s=>uS s)
    case atStart=>exact⟨b,Nl _,rfl,hd⟩
    case round =>
     obtain⟨t,ht,rfl,hp⟩:=hrel;clear hd
     by_cases hlt:0<t.length
     ·have hsz:0<(⟨t.toArray⟩:ByteArray).size:=by rw[aV];exact hlt
      have hgk:=Hd (gF t 0 hsz);have h1:(1:Int)<=t.length:=by omega
      by_cases n1:(((⟨t.toArray⟩:ByteArray)[0]'hsz).toNat:Int)=48
      ·have e1:Hid (dd=t.tail.dropWhile (· == 48)):=by
        have h2:t.getD 0 0=48:=by rw[<-hgk.out];apply UInt8.toNat.inj;rw[show (48:UInt8).toNat=48 from rfl];omega
        show _=_;rw[hp.out];cases t with
        |nil=>simp at hlt
        |cons c r=>simp at h2;subst h2;simp
       clear hgk hp;have hx:List.take (t.length-1) t.tail=t.tail:=List.take_of_length_le (by simp);go_wp2;go_round
       case rel=>exact⟨t.tail,by simp;omega,rfl,e1⟩
       case measure=>simp[uS,aV];omega
      ·have e1:Hid (dd=t):=by
        have h2:t.getD 0 0≠48:=fun h=>by rw[<-hgk.out] at h;rw[h] at n1;exact n1 rfl
        show _=_;rw[hp.out];cases t with
        |nil=>simp at hlt
        |cons c r=>simp at h2;simp[h2]
       have e2:(!t.isEmpty)=true:=by cases t with
        |nil=>simp at hlt
        |cons c r=>rfl
       have e3:=Hd e2;clear hgk hp e2;go_wp2;go_ret2;exact⟨dW (by rw[hn.out,e1.out,e3.out];simp),rfl⟩
     ·have e1:t=[]:=List.eq_nil_of_length_eq_zero (by omega);subst e1;have e1:Hid (dd=[]):=hp.out;clear hp;go_wp2;go_ret2;exact⟨dW (by rw[hn.out,e1.out];simp),rfl⟩
theorem qV(l:List UInt8)(w:World)(hl:l.length<=9000000000000000000):
  Calls prog 150 #[.string ⟨l.toArray⟩] w fun e w'=>e=.returned (.string ⟨(aJ (val l)).toArray⟩)/\w=w':=by
 have H:=Hd (fun W=>fR l W hl);have hc:=Hd (Rm l);have hdl:=nN l;generalize aJ (val l)=c at *;generalize aZ l=d at *;generalize dD l=n at *;cases n
 all_goals
  go_enter func150,ntmps150;go_wp2_with (go_at_call 149;refine(H.out _).mono ?_;rintro e w1 ⟨rfl,rfl⟩);go_ret;exact⟨dW (by rw[hc.out];simp),rfl⟩
theorem zG(d d2:List UInt8)(h:d.length<d2.length)(h1:d.all bF=true)(h2:d2.all bF=true)(h3:d2.head?≠some 48):bK d<bK d2:=by
 cases d2 with
 |nil=>simp at h
 |cons c r =>
  simp only[List.all_cons,Bool.and_eq_true] at h2;have hc:=(dO c).1 h2.1;have hne:c.toNat≠48:=fun e=>h3 (by simp;exact UInt8.toNat.inj e)
  have hn:=mR d h1;have hp:10^d.length<=10^r.length:=Nat.pow_le_pow_right (by decide) (by simp at h;omega);rw[gN];have:1*10^r.length<=(c.toNat-48)*10^r.length:=Nat.mul_le_mul_right _ (by omega);omega
theorem Mw(l:List UInt8)(w:World)(hl:l.length<=9000000000000000000):
  Calls prog 129 #[.string ⟨l.toArray⟩] w fun e w'=>e=.returned (.int .i64 (if Hi l=true then 0 else 1))/\w=w':=by
 have H:=Hd (fun W=>qV l W hl);have hi:=Hd (show (if Hi l=true then(0:Int) else 1)=if decide (aJ (val l)=l)=true then 0 else 1 from rfl);generalize aJ (val l)=c at *;generalize(if Hi l=true then(0:Int) else 1)=i at *
 by_cases g:c=l
 ·subst g;go_enter func129,ntmps129;go_wp2_with (go_at_call 150;refine(H.out _).mono ?_;rintro e w1 ⟨rfl,rfl⟩);go_ret;exact⟨gG (by rw[hi.out];simp),rfl⟩
 ·have g':(!c==l)=true:=by simp[g]
  have G:=Hd g;go_enter func129,ntmps129;go_wp2_with (go_at_call 150;refine(H.out _).mono ?_;rintro e w1 ⟨rfl,rfl⟩);go_ret;exact⟨gG (by rw[hi.out];have:=G.out;simp[this]),rfl⟩
theorem By{d d2:List UInt8}(hl:d.length=d2.length)(h1:d.all bF=true)(h2:d2.all bF=true):Op.bytesLess d d2=true↔bK d<bK d2:=by
 induction d generalizing d2 with
 |nil=>cases d2 with
  |nil=>simp[Op.bytesLess,bK]
  |cons b r=>simp at hl
 |cons a r ih=>cases d2 with
  |nil=>simp at hl
  |cons b r2 =>
   simp only[List.length_cons,Nat.add_right_cancel_iff] at hl;simp only[List.all_cons,Bool.and_eq_true] at h1 h2;have ha:=(dO a).1 h1.1;have hb:=(dO b).1 h2.1;have hn1:=mR r h1.2;have hn2:=mR r2 h2.2;have:=ih hl h1.2 h2.2;rw[gN,gN,hl];rw[hl] at hn1;generalize 10^r2.length=p at *;have hlt:a.toNat<b.toNat->(a.toNat-48)*p+p<=(b.toNat-48)*p:=fun h=>by
    have:(a.toNat-48+1)*p<=(b.toNat-48)*p:=Nat.mul_le_mul_right _ (by omega);rw[Nat.add_mul] at this;omega
   have hgt:b.toNat<a.toNat->(b.toNat-48)*p+p<=(a.toNat-48)*p:=fun h=>by
    have:(b.toNat-48+1)*p<=(a.toNat-48)*p:=Nat.mul_le_mul_right _ (by omega);rw[Nat.add_mul] at this;omega
   rcases Nat.lt_trichotomy a.toNat b.toNat with h|h|h
   ·have:=hlt h;have e:Op.bytesLess (a::r) (b::r2)=true:=by simp[Op.bytesLess];exact .inl (UInt8.lt_iff_toNat_lt.2 h)
    rw[e];simp;omega
   ·have e:a=b:=UInt8.toNat.inj h;subst e;have e:Op.bytesLess (a::r) (a::r2)=Op.bytesLess r r2:=by simp[Op.bytesLess]
    rw[e,this];omega
   ·have:=hgt h;have e:Op.bytesLess (a::r) (b::r2)=false:=by simp[Op.bytesLess];exact⟨UInt8.le_iff_toNat_le.2 (by omega),fun e=>by rw[e] at h;omega⟩
    rw[e];simp;omega
theorem Av(d:List UInt8):Op.bytesLess d d=false:=by
 induction d with
 |nil=>rfl
 |cons a r ih=>simp[Op.bytesLess,ih]
theorem Vt{a b:Int}(h:a<b):-1=bG a b:=by unfold bG;rw[if_pos h]
theorem Vu{a b:Int}(h:b<a):1=bG a b:=by unfold bG;rw[if_neg (by omega),if_pos h]
theorem aE3{a b:Int}(h:a=b):0=bG a b:=by unfold bG;rw[if_neg (by omega),if_neg (by omega)]
theorem iD(l m:List UInt8)(w:World)(hl:l.length<=9000000000000000000)(hm:m.length<=9000000000000000000):
  Calls prog 131 #[.string ⟨l.toArray⟩,.string ⟨m.toArray⟩] w fun e w'=>e=.returned (.int .i64 (bG (val l) (val m)))/\w=w':=by
 have H1:=Hd (fun W=>fR l W hl);have H2:=Hd (fun W=>fR m W hm);have hdl:=nN l;have hdm:=nN m;rw[fG l,fG m];have hL:=Hd (fun h=>By (d:=aZ l) (d2:=aZ m) h (fD l) (fD m));have hS:=Hd (fun h=>zG (aZ l) (aZ m) h (fD l) (fD m) (jY m));have hT:=Hd (fun h=>zG (aZ m) (aZ l) h (fD m) (fD l) (jY l));have hI:Hid (bK (aZ l)=bK (aZ m)->aZ l=aZ m):=fun h=>by rw[qP l,qP m,h]
 have p1:=Hd (fun h=>tM (l:=l) h);have p2:=Hd (fun h=>tM (l:=m) h);generalize aZ l=d at *;generalize aZ m=d2 at *;generalize dD l=n at *;generalize dD m=n2 at *;have hc:(Hid (bK d<bK d2)/\d.length<d2.length)∨(Hid (bK d<bK d2)/\d.length=d2.length/\Op.bytesLess d d2=true)∨(Hid (bK d=bK d2)/\d=d2)∨(Hid (bK d2<bK d)/\d2.length<d.length)∨(Hid (bK d2<bK d)/\d.length=d2.length/\Op.bytesLess d d2=false/\(!d==d2)=true):=by
  have q1:=hL.out;have q2:=hS.out;have q3:=hT.out;rcases Nat.lt_trichotomy (bK d) (bK d2) with h|h|h
  ·rcases Nat.lt_trichotomy d.length d2.length with g|g|g
   ·exact .inl ⟨h,g⟩
   ·exact .inr (.inl ⟨h,g,(q1 g).2 h⟩)
   ·have:=q3 g;omega
  ·exact .inr (.inr (.inl ⟨h,hI.out h⟩))
  ·rcases Nat.lt_trichotomy d.length d2.length with g|g|g
   ·have:=q2 g;omega
   ·refine .inr (.inr (.inr (.inr ⟨h,g,?_,?_⟩)))
    ·cases hb:Op.bytesLess d d2 with
     |false=>rfl
     |true=>have:=(q1 g).1 hb;omega
    ·simp;intro e;subst e;omega
   ·exact .inr (.inr (.inr (.inl ⟨h,g⟩)))
 clear hL hS hT hI;rcases hc with⟨F,g⟩|⟨F,g,g2⟩|⟨F,g⟩|⟨F,g⟩|⟨F,g,g2,g3⟩
 ·have g1:¬ d.length=d2.length:=by omega
  have g2:(d.length:Int)<d2.length:=by omega
  cases n <;> cases n2
  all_goals
   go_enter func131,ntmps131;go_wp2_with fail;refine(H1.out _).mono ?_;rintro e w1 ⟨rfl,rfl⟩;go_wp2_with fail;refine(H2.out _).mono ?_;rintro e w1 ⟨rfl,rfl⟩;go_wp2
   all_goals go_ret
   all_goals refine⟨gG ?_,rfl⟩
   all_goals first|exact Vt (by have q1:=F.out;have q2:=p1.out;have q3:=p2.out;try simp at q2;try simp at q3;simp only[lX,if_true,Bool.false_eq_true,if_false];omega)|exact Vu (by have q1:=F.out;have q2:=p1.out;have q3:=p2.out;try simp at q2;try simp at q3;simp only[lX,if_true,Bool.false_eq_true,if_false];omega)
 ·cases n <;> cases n2
  all_goals
   go_enter func131,ntmps131;go_wp2_with fail;refine(H1.out _).mono ?_;rintro e w1 ⟨rfl,rfl⟩;go_wp2_with fail;refine(H2.out _).mono ?_;rintro e w1 ⟨rfl,rfl⟩;go_wp2
   all_goals go_ret
   all_goals refine⟨gG ?_,rfl⟩
   all_goals first|exact Vt (by have q1:=F.out;have q2:=p1.out;have q3:=p2.out;try simp at q2;try simp at q3;simp only[lX,if_true,Bool.false_eq_true,if_false];omega)|exact Vu (by have q1:=F.out;have q2:=p1.out;have q3:=p2.out;try simp at q2;try simp at q3;simp only[lX,if_true,Bool.false_eq_true,if_false];omega)
 ·subst g;have g2:=Av d;cases n <;> cases n2
  all_goals
   go_enter func131,ntmps131;go_wp2_with fail;refine(H1.out _).mono ?_;rintro e w1 ⟨rfl,rfl⟩;go_wp2_with fail;refine(H2.out _).mono ?_;rintro e w1 ⟨rfl,rfl⟩;go_wp2
   all_goals go_ret
   all_goals refine⟨gG ?_,rfl⟩
   all_goals first|exact aE3 rfl|exact Vt (by have q1:=F.out;have q2:=p1.out;have q3:=p2.out;try simp at q2;try simp at q3;simp only[lX,if_true,Bool.false_eq_true,if_false];omega)|exact Vu (by have q1:=F.out;have q2:=p1.out;have q3:=p2.out;try simp at q2;try simp at q3;simp only[lX,if_true,Bool.false_eq_true,if_false];omega)
 ·have g1:¬ d.length=d2.length:=by omega
  have g2:¬ (d.length:Int)<d2.length:=by omega
  cases n <;> cases n2
  all_goals
   go_enter func131,ntmps131;go_wp2_with fail;refine(H1.out _).mono ?_;rintro e w1 ⟨rfl,rfl⟩;go_wp2_with fail;refine(H2.out _).mono ?_;rintro e w1 ⟨rfl,rfl⟩;go_wp2
   all_goals go_ret
   all_goals refine⟨gG ?_,rfl⟩
   all_goals first|exact Vt (by have q1:=F.out;have q2:=p1.out;have q3:=p2.out;try simp at q2;try simp at q3;simp only[lX,if_true,Bool.false_eq_true,if_false];omega)|exact Vu (by have q1:=F.out;have q2:=p1.out;have q3:=p2.out;try simp at q2;try simp at q3;simp only[lX,if_true,Bool.false_eq_true,if_false];omega)
 ·cases n <;> cases n2
  all_goals
   go_enter func131,ntmps131;go_wp2_with fail;refine(H1.out _).mono ?_;rintro e w1 ⟨rfl,rfl⟩;go_wp2_with fail;refine(H2.out _).mono ?_;rintro e w1 ⟨rfl,rfl⟩;go_wp2
   all_goals go_ret
   all_goals refine⟨gG ?_,rfl⟩
   all_goals first|exact Vt (by have q1:=F.out;have q2:=p1.out;have q3:=p2.out;try simp at q2;try simp at q3;simp only[lX,if_true,Bool.false_eq_true,if_false];omega)|exact Vu (by have q1:=F.out;have q2:=p1.out;have q3:=p2.out;try simp at q2;try simp at q3;simp only[lX,if_true,Bool.false_eq_true,if_false];omega)
theorem aL0(l:List UInt8)(w:World)(hl:l.length<=9000000000000000000):
  Calls prog 130 #[.string ⟨l.toArray⟩] w fun e w'=>e=.returned (.int .i64 (bG (val l) 0))/\w=w':=by
 have H:=Hd (fun W=>iD l [] W hl (by simp));rw[Nj] at H;go_enter func130,ntmps130;go_wp2_with (go_at_call 131;refine(H.out _).mono ?_;rintro e w1 ⟨rfl,rfl⟩);go_ret;exact⟨rfl,rfl⟩
end
section
open Go.RowKit Num
attribute [local go_sem] eW eN aV
def Bd.great(x:Bd):Bool:=decide (13<x.q.length) || decide (13<x.c.length) || decide (13<x.u.length) || decide (40<x.id.length) || decide (40<x.ins.length)
theorem Bd.great_mk(id ins:List UInt8)(acq opn:Int)(q c u:List UInt8):Bd.great ⟨id,ins,acq,opn,q,c,u⟩=(decide (13<q.length) || decide (13<c.length) || decide (13<u.length) || decide (40<id.length) || decide (40<ins.length)):=rfl
theorem aMh(x:Bd)(w:World)(h1:x.id.length<=1000)(h2:x.ins.length<=1000)(h3:x.q.length<=1000)(h4:x.c.length<=1000)(h5:x.u.length<=1000):
  Calls prog 76 #[x.v] w fun e w'=>e=.returned (.int .i64 x.err)/\Below w.heap.size w w':=by
 obtain⟨id,ins,acq,opn,q,c,u⟩:=x;simp only[Bd.v] at *;have hr:=Hd (Bd.err_mk id ins acq opn q c u);have H1:=Hd (fun W=>aOn id W (by omega));have H2:=Hd (fun W=>mL ins W (by omega));have H3:=Hd (fun W=>aMj acq W);have H4:=Hd (fun W=>aMj opn W);have H5:=Hd (fun W=>Mw q W (by omega));have H6:=Hd (fun W=>Mw c W (by omega));have H7:=Hd (fun W=>Mw u W (by omega));have H8:=Hd (fun W=>aL0 q W (by omega));have H9:=Hd (fun W=>aL0 c W (by omega));generalize Bd.err _=r at *;generalize sP id=b1 at *;generalize dC ins=b2 at *;generalize aLk acq=b3 at *;generalize aLk opn=b4 at *;generalize Hi q=b5 at *;generalize Hi c=b6 at *;generalize Hi u=b7 at *;have KB:=Hd (aP.new0 w #[.string ⟨id.toArray⟩,.string ⟨ins.toArray⟩,.int .i64 acq,.int .i64 opn,.string ⟨q.toArray⟩,.string ⟨c.toArray⟩,.string ⟨u.toArray⟩] 49);have HB:=Hd (aB w (.cells #[.string ⟨id.toArray⟩,.string ⟨ins.toArray⟩,.int .i64 acq,.int .i64 opn,.string ⟨q.toArray⟩,.string ⟨c.toArray⟩,.string ⟨u.toArray⟩] 49));go_enter func76,ntmps76;go_wp2_with fail;generalize w.alloc _=w1 at *;have k1:=KB.out.cell 1;have k2:=KB.out.cell 2;have k3:=KB.out.cell 3;have k4:=KB.out.cell 4;have k5:=KB.out.cell 5;have k6:=KB.out.cell 6;refine(H1.out _).mono ?_;rintro e w1 ⟨rfl,rfl⟩;cases b1
 ·go_wp2;go_ret;exact⟨gG (by rw[hr.out];simp),HB.out⟩
 go_wp2_with fail;refine(H2.out _).mono ?_;rintro e w1 ⟨rfl,rfl⟩;cases b2
 ·go_wp2;go_ret;exact⟨gG (by rw[hr.out];simp),HB.out⟩
 go_wp2_with fail;refine(H3.out _).mono ?_;rintro e w2 ⟨rfl,rfl⟩;cases b3
 ·go_wp2;go_ret;exact⟨gG (by rw[hr.out];simp),HB.out⟩
 go_wp2_with fail;refine(H4.out _).mono ?_;rintro e w2 ⟨rfl,rfl⟩;cases b4
 ·go_wp2;go_ret;exact⟨gG (by rw[hr.out];simp),HB.out⟩
 by_cases g1:opn<acq
 ·go_wp2_with fail;go_ret;exact⟨gG (by rw[hr.out];simp[g1]),HB.out⟩
 go_wp2_with fail;refine(H5.out _).mono ?_;rintro e w2 ⟨rfl,rfl⟩;cases b5
 ·go_wp2;go_ret;exact⟨gG (by rw[hr.out];simp[g1]),HB.out⟩
 go_wp2_with fail;refine(H6.out _).mono ?_;rintro e w2 ⟨rfl,rfl⟩;cases b6
 ·go_wp2;go_ret;exact⟨gG (by rw[hr.out];simp[g1]),HB.out⟩
 go_wp2_with fail;refine(H7.out _).mono ?_;rintro e w2 ⟨rfl,rfl⟩;cases b7
 ·go_wp2;go_ret;exact⟨gG (by rw[hr.out];simp[g1]),HB.out⟩
 go_wp2_with fail;refine(H8.out _).mono ?_;rintro e w2 ⟨rfl,rfl⟩;have hc1:=Hd (aNr (val q) 0)
 by_cases g2:val q<=0
 ·have t1:=hc1.out.2 g2;go_wp2;go_ret;exact⟨gG (by rw[hr.out];simp[g1,g2]),HB.out⟩
 have t1:=mt hc1.out.1 g2;go_wp2_with fail;refine(H9.out _).mono ?_;rintro e w2 ⟨rfl,rfl⟩;have hc2:=Hd (Oo (val c) 0)
 by_cases g3:val c<0
 ·have t2:=hc2.out.2 g3;go_wp2;go_ret;exact⟨gG (by rw[hr.out];simp[g1,g3]),HB.out⟩
 have t2:=mt hc2.out.1 g3;have G:=Hd (And.intro g1 (And.intro g2 g3))
 by_cases g4:u=[]
 ·subst g4;go_wp2;go_ret;exact⟨gG (by rw[hr.out];have:=G.out;simp;rw[if_neg (by omega),if_neg (by omega)]),HB.out⟩
 by_cases g5:u=q
 ·subst g5;go_wp2;go_ret;exact⟨gG (by rw[hr.out];have:=G.out;simp;rw[if_neg (by omega),if_neg (by omega)]),HB.out⟩
 ·have G5:=Hd (And.intro g4 g5);go_wp2
  ·go_ret;exact⟨gG (by rw[hr.out];have h7:=G.out;have h8:=G5.out;simp;rw[if_neg (by omega),if_pos (.inr (.inr h8))]),HB.out⟩
  ·exfalso;rename_i hh;have:=G5.out;simp[this] at hh
theorem aMn(x:Bd)(w:World)(h1:x.id.length<=9223372036854775807)(h2:x.ins.length<=9223372036854775807)(h3:x.q.length<=9223372036854775807)(h4:x.c.length<=9223372036854775807)(h5:x.u.length<=9223372036854775807):
  Calls prog 78 #[x.v] w fun e w'=>e=.returned (.bool x.great)/\Below w.heap.size w w':=by
 have hlong:Hid (∀l:List UInt8,l.length<=9223372036854775807->∀W,Calls prog 79 #[.string ⟨l.toArray⟩] W fun e w'=>e=.returned (.bool (decide (13<l.length)))/\W=w'):=by
  intro l hl W
  by_cases g:(13:Int)<l.length
  all_goals
   go_enter func79,ntmps79;go_wp2;go_ret;exact⟨dG (by simp;try omega),rfl⟩
 obtain⟨id,ins,acq,opn,q,c,u⟩:=x;simp only[Bd.v] at *;have hr:=Hd (Bd.great_mk id ins acq opn q c u);have H1:=Hd (hlong.out q h3);have H2:=Hd (hlong.out c h4);have H3:=Hd (hlong.out u h5);clear hlong;generalize Bd.great _=r at *;generalize decide (13<q.length)=b1 at *;generalize decide (13<c.length)=b2 at *;generalize decide (13<u.length)=b3 at *;have KB:=Hd (aP.new0 w #[.string ⟨id.toArray⟩,.string ⟨ins.toArray⟩,.int .i64 acq,.int .i64 opn,.string ⟨q.toArray⟩,.string ⟨c.toArray⟩,.string ⟨u.toArray⟩] 49);have HB:=Hd (aB w (.cells #[.string ⟨id.toArray⟩,.string ⟨ins.toArray⟩,.int .i64 acq,.int .i64 opn,.string ⟨q.toArray⟩,.string ⟨c.toArray⟩,.string ⟨u.toArray⟩] 49));go_enter func78,ntmps78;go_wp2_with fail;generalize w.alloc _=w1 at *;have k0:=KB.out.cell 0;have k1:=KB.out.cell 1;have k5:=KB.out.cell 5;have k6:=KB.out.cell 6;refine(H1.out _).mono ?_;rintro e w1 ⟨rfl,rfl⟩;cases b1
 case true =>
  go_wp2;go_ret;exact⟨dG (by rw[hr.out];simp),HB.out⟩
 go_wp2_with fail;refine(H2.out _).mono ?_;rintro e w1 ⟨rfl,rfl⟩;cases b2
 case true =>
  go_wp2;go_ret;exact⟨dG (by rw[hr.out];simp),HB.out⟩
 go_wp2_with fail;refine(H3.out _).mono ?_;rintro e w1 ⟨rfl,rfl⟩;cases b3
 case true =>
  go_wp2;go_ret;exact⟨dG (by rw[hr.out];simp),HB.out⟩
 by_cases g1:(40:Int)<id.length
 ·go_wp2;go_ret;exact⟨dG (by rw[hr.out];simp;omega),HB.out⟩
 by_cases g2:(40:Int)<ins.length
 all_goals
  go_wp2;go_ret;exact⟨dG (by rw[hr.out];first|(simp only[decide_eq_false (show ¬ 40<id.length by omega),decide_eq_false (show ¬ 40<ins.length by omega),decide_eq_false (show ¬ (40:Int)<id.length by omega),decide_eq_false (show ¬ (40:Int)<ins.length by omega)] <;> rfl)|(simp;omega)),HB.out⟩
def Jj(w:World)(a:Option Addr)(ls:List Bd):Prop :=
 ls=[]∨∃b off,a=some ⟨b,off,none⟩/\b<w.heap.size/\∀k x,ls[k]?=some x ->
  w.cell? ⟨b,off+k*7,none⟩=some (Pm x.id)/\w.cell? ⟨b,off+k*7+1,none⟩=some (Pm x.ins)/\w.cell? ⟨b,off+k*7+2,none⟩=some (.int .i64 x.acq)/\w.cell? ⟨b,off+k*7+3,none⟩=some (.int .i64 x.opn) /\
  w.cell? ⟨b,off+k*7+4,none⟩=some (Pm x.q)/\w.cell? ⟨b,off+k*7+5,none⟩=some (Pm x.c)/\w.cell? ⟨b,off+k*7+6,none⟩=some (Pm x.u)
theorem Jj.below{w w':World}{a:Option Addr}{ls:List Bd}(h:Jj w a ls)(hb:Below w.heap.size w w'):Jj w' a ls:=by
 rcases h with h|⟨b,off,ha,hlt,hc⟩
 ·exact .inl h
 ·have hcell:∀o,w'.cell? ⟨b,o,none⟩=w.cell? ⟨b,o,none⟩:=fun o=>hb.cell (p:=⟨b,o,none⟩) hlt
  refine .inr ⟨b,off,ha,Nat.lt_of_lt_of_le hlt hb.size,fun k x hx=>?_⟩;simp only[hcell];exact hc k x hx
theorem Jj.addr{w:World}{a:Option Addr}{ls:List Bd}(h:Jj w a ls){k:Nat}{x:Bd}(hx:ls[k]?=some x):
  ∃b off,a=some ⟨b,off,none⟩ /\
  w.cell? ⟨b,off+k*7,none⟩=some (Pm x.id)/\w.cell? ⟨b,off+k*7+1,none⟩=some (Pm x.ins)/\w.cell? ⟨b,off+k*7+2,none⟩=some (.int .i64 x.acq)/\w.cell? ⟨b,off+k*7+3,none⟩=some (.int .i64 x.opn) /\
  w.cell? ⟨b,off+k*7+4,none⟩=some (Pm x.q)/\w.cell? ⟨b,off+k*7+5,none⟩=some (Pm x.c)/\w.cell? ⟨b,off+k*7+6,none⟩=some (Pm x.u):=by
 rcases h with h|⟨b,off,ha,_,hc⟩
 ·rw[h] at hx;simp at hx
 ·exact⟨b,off,ha,hc k x hx⟩
end
section
open Go.RowKit Num
attribute [local go_sem] eW eN aV
def Bd.fits(x:Bd):Prop:=x.id.length<=9223372036854775807/\x.ins.length<=9223372036854775807/\x.q.length<=9223372036854775807/\x.c.length<=9223372036854775807/\x.u.length<=9223372036854775807
theorem aL2{α:Type}{p:α->Bool}{l:List α}{k:Nat}{x:α}(hx:l[k]?=some x)(h:(l.take k).any p=false)(hp:p x=false):(l.take (k+1)).any p=false:=by
 rw[List.take_add_one,hx];simp[List.any_append,h,hp]
theorem aMw{α:Type}{p:α->Bool}{l:List α}{k:Nat}{x:α}(hx:l[k]?=some x)(hp:p x=true):l.any p=true:=by
 rw[List.any_eq_true];exact⟨x,List.mem_of_getElem? hx,hp⟩
def aPi(n:Nat):Bool:=decide (12<n/\n<999∨1002<n)
def aNn(ls:List Bd):Bool:=aPi ls.length || ls.any Bd.great
theorem aOs(ls:List Bd)(a:Option Addr)(c:Nat)(w:World)(hn:ls.length<=9223372036854775807)(hw:Jj w a ls)(hs:∀x,x∈ls->x.fits):
  Calls prog 37 #[.slice a ls.length c] w fun e w'=>e=.returned (.bool (aNn ls))/\Below w.heap.size w w':=by
 have HS:=Hd hs;have HW:=Hd hw;have HG:=Hd (show aNn ls=(decide (12<ls.length/\ls.length<999∨1002<ls.length) || ls.any Bd.great) from rfl);clear hs hw;have hc:(12<ls.length/\ls.length<999)∨1002<ls.length∨(ls.length<=12)∨(999<=ls.length/\ls.length<=1002):=by omega
 rcases hc with⟨g1,g2⟩|g1|g1|⟨g1,g2⟩
 ·have h1:(12:Int)<ls.length:=by omega
  have h2:(ls.length:Int)<999:=by omega
  go_enter func37,ntmps37;go_wp2;go_ret;exact⟨dG (by rw[HG.out];simp;omega),Br _ _⟩
 ·have h1:(12:Int)<ls.length:=by omega
  have h2:¬ (ls.length:Int)<999:=by omega
  have h3:(1002:Int)<ls.length:=by omega
  go_enter func37,ntmps37;go_wp2;go_ret;exact⟨dG (by rw[HG.out];simp;omega),Br _ _⟩
 all_goals
  have HG:Hid (aNn ls=ls.any Bd.great):=by
   show _=_;rw[HG.out,decide_eq_false (by omega)];rfl
  have h1:¬ (1002:Int)<ls.length:=by omega
  first|(have h2:¬ (12:Int)<ls.length:=by omega)|(have h2:¬ (ls.length:Int)<999:=(by omega);have h3:(12:Int)<ls.length:=(by omega))
  go_enter func37,ntmps37;go_wp2;go_loopw [3] (fun i W=>Hid (Below w.heap.size w W)/\∃k:Nat,k<=ls.length/\i=.int .i64 (k:Int)/\Hid ((ls.take k).any Bd.great=false)) (fun i _=>ls.length-(intOf i).toNat)
  case atStart=>exact⟨Br _ _,0,Nat.zero_le _,rfl,rfl⟩
  case round =>
   obtain⟨hB,k,hk,rfl,hp⟩:=hrel
   by_cases hlt:k<ls.length
   ·obtain⟨x,hx⟩:∃x,ls[k]?=some x:=⟨ls[k],Lg hlt⟩
    obtain⟨b,off,ha,k0,k1,k2,k3,k4,k5,k6⟩:=(HW.out.below hB.out).addr hx;subst ha;have hm:=HS.out x (List.mem_of_getElem? hx);have H:=Hd (fun W=>aMn x W hm.1 hm.2.1 hm.2.2.1 hm.2.2.2.1 hm.2.2.2.2);have HX:=Hd (fun h=>aMw (p:=Bd.great) hx h);have HY:=Hd (fun h=>aL2 (p:=Bd.great) hx hp.out h);clear hx hm;go_wp2_with fail;refine(H.out _).mono ?_;rintro e w1 ⟨rfl,hb⟩;cases hr:x.great
    ·go_wp2;go_round
     case rel=>exact⟨aA hB.out hb,k+1,by omega,by go_num,HY.out hr⟩
     case measure=>simp[intOf];omega
    ·go_wp2;go_ret;exact⟨dG (by rw[HG.out,HX.out hr]),aA hB.out hb⟩
   ·obtain rfl:k=ls.length:=by omega
    go_wp2;go_ret;exact⟨dG (by rw[HG.out,<-hp.out,List.take_length]),hB.out⟩
theorem aNc(ls:List Bd)(id:List UInt8)(a:Option Addr)(c:Nat)(w:World)(hn:ls.length<=9223372036854775807)(hw:Jj w a ls):
  Calls prog 92 #[.slice a ls.length c,.string ⟨id.toArray⟩] w fun e w'=>(∃n,e=.returned (.tuple #[.int .i64 n,.bool (ls.any fun y=>y.id==id)]))/\w=w':=by
 have HW:=Hd hw;clear hw;go_enter func92,ntmps92;go_wp2;go_loop [6] (fun i=>∃k:Nat,k<=ls.length/\i=.int .i64 (k:Int)/\Hid ((ls.take k).any (fun y=>y.id==id)=false)) (fun i=>ls.length-(intOf i).toNat)
 case atStart=>exact⟨0,Nat.zero_le _,rfl,rfl⟩
 case round =>
  obtain⟨k,hk,rfl,hp⟩:=hrel
  by_cases hlt:k<ls.length
  ·obtain⟨x,hx⟩:∃x,ls[k]?=some x:=⟨ls[k],Lg hlt⟩
   obtain⟨b,off,ha,k0,_⟩:=HW.out.addr hx;subst ha;have HX:=Hd (fun h=>aMw (p:=fun y=>y.id==id) hx h);have HY:=Hd (fun h=>aL2 (p:=fun y=>y.id==id) hx hp.out h);clear hx;obtain⟨xi,xn,xa,xo,xq,xc,xu⟩:=x
   by_cases g:xi=id
   ·subst g;go_wp2;go_ret2;refine⟨⟨(k:Int),?_⟩,rfl⟩;rw[HX.out (by simp)];rfl
   ·have G:=Hd g;have g':(xi==id)=false:=by simpa using g
    go_wp2;go_round
    case rel=>exact⟨k+1,by omega,by go_num,HY.out (by simpa using G.out)⟩
    case measure=>simp[intOf];omega
  ·obtain rfl:k=ls.length:=by omega
   go_wp2;go_ret2;refine⟨⟨0,?_⟩,rfl⟩;have:=hp.out;rw[List.take_length] at this;rw[this];rfl
def aLj:List Bd->List Bd->Int
 |_,[]=>0
 |pre,x::r=>if x.err≠0 then x.err else if pre.any (fun y=>y.id==x.id)=true then 5 else aLj (pre ++ [x]) r
def aO6(ls:List Bd):Int:=if 1000<ls.length then 4 else aLj [] ls
theorem aMv{α:Type}{l:List α}{k:Nat}{x:α}(hx:l[k]?=some x):l.drop k=x::l.drop (k+1):=by
 obtain⟨h,e⟩:=Li.1 hx;rw[List.drop_eq_getElem_cons h,e]
theorem aNl{α:Type}{l:List α}{k:Nat}{x:α}(hx:l[k]?=some x):l.take k ++ [x]=l.take (k+1):=by
 rw[List.take_add_one,hx];rfl
theorem aMy{ls:List Bd}{k:Nat}{x:Bd}{r:Int}(hx:ls[k]?=some x)(h:r=aLj (ls.take k) (ls.drop k))(he:x.err≠0):r=x.err:=by
 rw[h,aMv hx,aLj,if_pos he]
theorem aMx{ls:List Bd}{k:Nat}{x:Bd}{r:Int}(hx:ls[k]?=some x)(h:r=aLj (ls.take k) (ls.drop k))(he:x.err=0)(hd:(ls.take k).any (fun y=>y.id==x.id)=true):r=5:=by
 rw[h,aMv hx,aLj,if_neg (by simp[he]),if_pos hd]
theorem aMs{ls:List Bd}{k:Nat}{x:Bd}{r:Int}(hx:ls[k]?=some x)(h:r=aLj (ls.take k) (ls.drop k))(he:x.err=0)(hd:(ls.take k).any (fun y=>y.id==x.id)=false):r=aLj (ls.take (k+1)) (ls.drop (k+1)):=by
 rw[h,aMv hx,aLj,if_neg (by simp[he]),if_neg (by simp[hd]),aNl hx]
def Bd.small(x:Bd):Prop:=x.id.length<=1000/\x.ins.length<=1000/\x.q.length<=1000/\x.c.length<=1000/\x.u.length<=1000
theorem Jj.take{w:World}{a:Option Addr}{ls:List Bd}(h:Jj w a ls)(k:Nat):Jj w a (ls.take k):=by
 rcases h with h|⟨b,off,ha,hlt,hc⟩
 ·exact .inl (by rw[h];simp)
 ·refine .inr ⟨b,off,ha,hlt,fun j x hx=>hc j x ?_⟩;rw[List.getElem?_take] at hx;split at hx
  ·exact hx
  ·cases hx
theorem dAg(ls:List Bd)(a:Option Addr)(c:Nat)(w:World)(hn:ls.length<=1000000)(hcap:ls.length<=c)(hw:Jj w a ls)(hs:∀x,x∈ls->x.small):
  Calls prog 45 #[.slice a ls.length c] w fun e w'=>e=.returned (.int .i64 (aO6 ls))/\Below w.heap.size w w':=by
 by_cases h1000:1000<ls.length
 ·have h1:(1000:Int)<ls.length:=by omega
  rw[show aO6 ls=4 from if_pos h1000];go_enter func45,ntmps45;go_wp2;go_ret;exact⟨rfl,Br _ _⟩
 have h1000:¬ (1000:Int)<ls.length:=by omega
 rw[show aO6 ls=aLj [] ls from if_neg (by omega)];have HS:=Hd hs;have HW:=Hd hw;clear hs hw;have HG:∃r,r=aLj [] ls:=⟨_,rfl⟩
 obtain⟨r,hr⟩:=HG;rw[<-hr];have HG:=Hd hr;clear hr;go_enter func45,ntmps45;go_wp2;go_loopw [3] (fun i W=>Hid (Below w.heap.size w W)/\∃k:Nat,k<=ls.length/\i=.int .i64 (k:Int)/\Hid (r=aLj (ls.take k) (ls.drop k))) (fun i _=>ls.length-(intOf i).toNat)
 case atStart=>exact⟨Br _ _,0,Nat.zero_le _,rfl,HG⟩
 case round =>
  obtain⟨hB,k,hk,rfl,hp⟩:=hrel
  by_cases hlt:k<ls.length
  ·obtain⟨x,hx⟩:∃x,ls[k]?=some x:=⟨ls[k],Lg hlt⟩
   have hLw:=HW.out.below hB.out;have HF:=Hd (fun W (hWW:Below wr.heap.size wr W) c'=>show Calls prog 92 #[.slice a k c',.string ⟨x.id.toArray⟩] W (fun e w'=>(∃n,e=.returned (.tuple #[.int .i64 n,.bool ((ls.take k).any fun y=>y.id==x.id)]))/\W=w') from(by
    have:=aNc (ls.take k) x.id a c' W (by simp;omega) ((hLw.below hWW).take k)
    rwa [List.length_take,Nat.min_eq_left (by omega)] at this))
   obtain⟨b,off,ha,k0,k1,k2,k3,k4,k5,k6⟩:=hLw.addr hx;subst ha;have hm:=HS.out x (List.mem_of_getElem? hx);have H:=Hd (fun W=>aMh x W hm.1 hm.2.1 hm.2.2.1 hm.2.2.2.1 hm.2.2.2.2);have HX:=Hd (fun h=>aMy hx hp.out h);have HY:=Hd (fun h1 h2=>aMx hx hp.out h1 h2);have HZ:=Hd (fun h1 h2=>aMs hx hp.out h1 h2);have hcell:=Hd (fun w' (hb:Below wr.heap.size wr w')=>((HW.out.below hB.out).below hb).addr hx);clear hm hx hLw;go_wp2_with fail;refine(H.out _).mono ?_;rintro e w1 ⟨rfl,hb⟩
   by_cases g:x.err=0
   ·obtain⟨b',off',ha',q0,_⟩:=hcell.out _ hb;injection ha' with ha'
    injection ha' with e1 e2
    subst e1 e2;have HY:=Hd (HY.out g);have HZ:=Hd (HZ.out g);clear HX hcell k0 k1 k2 k3 k4 k5 k6;have hkc:k<=c:=by omega
    have hkc':(k:Int)<=c:=by omega
    rw[g];go_wp2_with fail;go_region_held3 (fun W=>W.cell? ⟨b,off+k*7,none⟩=some (Pm x.id)) (first|exact q0|go_keep)
     (first|(go_at_call 92;refine(HF.out _ (aD hb _) _).mono ?_;rintro e w2 ⟨⟨n,rfl⟩,rfl⟩))
    cases hd:(ls.take k).any (fun y=>y.id==x.id)
    ·have HZ:=Hd (HZ.out hd);clear hd HY;go_wp2;go_round
     case rel=>exact⟨aD (aA hB.out hb) _,k+1,by omega,by go_num,HZ⟩
     case measure=>simp[intOf];omega
    ·have HY:=Hd (HY.out hd);clear hd HZ;go_wp2;go_ret;exact⟨gG (by rw[HY.out]),aD (aA hB.out hb) _⟩
   ·have g':(x.err != 0)=true:=by simpa using g
    have G:=Hd g;go_wp2;go_ret;exact⟨gG (by rw[HX.out G.out]),aA hB.out hb⟩
  ·obtain rfl:k=ls.length:=by omega
   go_wp2;go_ret;exact⟨gG (by rw[hp.out];simp[aLj]),hB.out⟩
theorem aM7(ls:List Bd)(a:Option Addr)(c:Nat)(w:World)(hn:ls.length<=12)(hcap:ls.length<=c)(hw:Jj w a ls)(hs:∀x,x∈ls->x.small):
  Calls prog 45 #[.slice a ls.length c] w fun e w'=>e=.returned (.int .i64 (aLj [] ls))/\Below w.heap.size w w':=by
 have h:=dAg ls a c w (by omega) hcap hw hs
 rwa [show aO6 ls=aLj [] ls from if_neg (by omega)] at h
end
section
open Go.RowKit Num
theorem Pg(x y:Nat)(a a':Option Addr)(cap cap':Nat)(w:World)(h1:(aC x).length<=100000000000)(h2:(aC y).length<=100000000000)
  (hr:dT w a (gs (aC x))) (hr':dT w a' (gs (aC y))) :
  Calls prog 171 #[.slice a (aC x).length cap,.slice a' (aC y).length cap'] w fun e w'=>∃b c,e=.returned (.slice b (aC (x*y)).length c)/\(aC (x*y)).length<=c/\dT w' b (gs (aC (x*y)))/\Below w.heap.size w w':=by
 refine(uR x y a a' cap cap' w h1 h2 hr hr').mono ?_;rintro e w' ⟨b,c,rfl,hc,_,_,⟨z,hG,_⟩,hb⟩;have h:=hG.row;rw[gY] at h;exact⟨_,c,rfl,hc,h.take,hb⟩
theorem Wq(nx ny:Bool)(x y:Nat):lX nx x*lX ny y=lX (nx != ny) (x*y):=by
 cases nx <;> cases ny <;> simp[lX,Int.neg_mul,Int.mul_neg]
theorem yC(n:Bool)(x:Nat):Fw n x=aJ (lX n x):=Cf n x
theorem Fq(l m:List UInt8)(w:World)(hE:iE w)(hl:l.length<=10000000000)(hm:m.length<=10000000000):
  Calls prog 138 #[.string ⟨l.toArray⟩,.string ⟨m.toArray⟩] w fun e w'=>e=.returned (.string ⟨(aJ (val l*val m)).toArray⟩)/\Below w.heap.size w w':=by
 have H1:=Hd (fun W=>dX l W (by omega));have H2:=Hd (fun W=>dX m W (by omega));have g1:=dL l;have g2:=dL m;rw[fG l,fG m,Wq,<-yC];generalize bK (aZ l)=x at *;generalize bK (aZ m)=y at *;generalize dD l=nx at *;generalize dD m=ny at *;have H3:=Hd (Pg x y);have HG:=Hd (And.intro g1 (And.intro g2 (Ch x y)));have HE:=Hd hE;clear hE g1 g2;go_enter func138,ntmps138;go_wp2_with fail;refine(H1.out _).mono ?_;rintro e w1 ⟨a,c,rfl,hc,hf,hr,hb⟩;go_wp2_with fail;refine(H2.out _).mono ?_;rintro e w2 ⟨a',c',rfl,hc',hf',hr',hb'⟩;have HX:=Hd (fun o1 o2 n=>show Below w2.heap.size w2 (((w2.alloc o1).alloc o2).drewN n) from aD (((Br _ _).alloc (Nl _) _).alloc (by simp) _) n);have HR:=Hd (And.intro (hr.below hb') hr');clear hr hr';go_wp2_with fail;go_region_held3 (fun W=>W.cell? ⟨w2.heap.size,0,none⟩=some (.bool nx)/\W.cell? ⟨w2.heap.size+1,0,none⟩=some (.bool ny)/\W.cell? ⟨w2.heap.size,1,none⟩=some (.slice a (aC x).length c)/\W.cell? ⟨w2.heap.size+1,1,none⟩=some (.slice a' (aC y).length c'))
  (first|exact⟨k0,k1,k2,k3⟩|exact⟨(hb4.cell (p:=⟨w2.heap.size,0,none⟩) hk).trans k0,(hb4.cell (p:=⟨w2.heap.size+1,0,none⟩) hk').trans k1,(hb4.cell (p:=⟨w2.heap.size,1,none⟩) hk).trans k2,(hb4.cell (p:=⟨w2.heap.size+1,1,none⟩) hk').trans k3⟩|go_keep)
  (first|(go_at_call 171;refine(H3.out a a' c c' _ (by have:=HG.out;omega) (by have:=HG.out;omega) (HR.out.1.below (HX.out _ _ _)) (HR.out.2.below (HX.out _ _ _))).mono ?_;rintro e w3 ⟨b3,c3,rfl,hc3,hr3,hb3⟩;have q:=vM (n:=1) hb3;have k0:=aS q.1 0;have k2:=aS q.1 1;have k1:=aS q.2 0;have k3:=aS q.2 1;have hk:w2.heap.size<w3.heap.size:=(Ai.1 q.1).1;have hk':w2.heap.size+1<w3.heap.size:=(Ai.1 q.2).1;have hbw3:=aA (aA (aA hb hb') (HX.out _ _ 1)) hb3;clear q hb3)|(go_at_call 57;refine(fJ (x*y) (nx != ny) b3 c3 _ (HE.out.below hbw3) hc3 (by have:=HG.out;omega) hr3).mono ?_;rintro e w4 ⟨rfl,hb4⟩))
 go_wp2;go_ret;exact⟨rfl,aA hbw3 hb4⟩
theorem Ox(l:List UInt8)(w:World)(hE:iE w)(hl:l.length<=10000000000):
  Calls prog 238 #[.string ⟨l.toArray⟩] w fun e w'=>e=.returned (.string ⟨(aJ (-val l)).toArray⟩)/\Below w.heap.size w w':=by
 have H1:=Hd (fun W=>dX l W (by omega));have g1:=dL l;rw[fG l,<-Nr,<-yC];generalize bK (aZ l)=x at *;generalize dD l=nx at *;have HG:=Hd g1;have HE:=Hd hE;clear hE g1;go_enter func238,ntmps238;go_wp2_with fail;refine(H1.out _).mono ?_;rintro e w1 ⟨a,c,rfl,hc,hf,hr,hb⟩;have HR:=Hd hr;have HX:=Hd (fun o=>show Below w1.heap.size w1 (w1.alloc o) from(Br _ _).alloc (Nl _) _);clear hr;go_wp2_with fail;refine(fJ x (!nx) a c _ (HE.out.below (aA hb (HX.out _))) hc (by have:=HG.out;omega) (HR.out.below (HX.out _))).mono ?_;rintro e w4 ⟨rfl,hb4⟩;go_wp2;go_ret;exact⟨rfl,aA (aA hb (HX.out _)) hb4⟩
end
end Go.Proofs.YtiloklnjjfaagaaGreatDoor
