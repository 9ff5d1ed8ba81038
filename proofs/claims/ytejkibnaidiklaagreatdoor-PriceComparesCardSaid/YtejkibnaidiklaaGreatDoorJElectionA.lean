/- Great32 -/
import Derived.Test.YtejkibnaidiklaaGreatDoorJGreat2
set_option maxHeartbeats 16000000
set_option maxRecDepth 100000
namespace Go.Proofs.YtejkibnaidiklaaGreatDoor
open Go.Proofs.Tryz
open Go Go.RowKit Num
theorem Bp(xs:List aF)(a:Option Addr)(c:Nat)(w:World)(hn:xs.length<=9223372036854775807)(hr:fS w a xs)(hf:∀x,x∈xs->x.fits):
  Calls prog 64 #[.slice a xs.length c] w fun e w'=>uK ((∀x,x∈xs->x.f.tight)/\(xs.length<=12∨1000<xs.length/\xs.length<=1003)) e/\Below w.heap.size w w':=by
 have HR:=Hd hr;have HF:=Hd hf;clear hr hf
 by_cases hbad:(12<xs.length/\xs.length<=1000)∨1002<xs.length
 ·clear HR HF;generalize xs.length=n at *;rcases hbad with⟨h1,h2⟩|h1
  ·have d1:decide (12<(n:Int))=true:=by simpa using(by omega:(12:Int)<n)
   have d2:decide ((n:Int)<=1000)=true:=by simpa using(by omega:(n:Int)<=1000)
   go_enter func64,ntmps64;go_wp2;go_ret;exact⟨⟨true,rfl,fun h=>by cases h⟩,Br _ _⟩
  ·have d1:decide (12<(n:Int))=true:=by simpa using(by omega:(12:Int)<n)
   have d2:decide ((n:Int)<=1000)=false:=by simpa using(by omega:¬ (n:Int)<=1000)
   have d3:decide (1002<(n:Int))=true:=by simpa using(by omega:(1002:Int)<n)
   go_enter func64,ntmps64;go_wp2;go_ret;exact⟨⟨true,rfl,fun h=>by cases h⟩,Br _ _⟩
 have HSZ0:Hid (xs.length<=12∨1000<xs.length/\xs.length<=1003):=by show _∨_;omega
 by_cases h12:12<xs.length
 ·have h1000:¬ (xs.length:Int)<=1000:=by omega
  have h1002:¬ (1002:Int)<xs.length:=by omega
  go_enter func64,ntmps64;go_wp2_with fail;go_loopw [3] (fun iv wr=>∃k:Nat,k<=xs.length/\iv=.int .i64 k/\Hid (∀j x,j<k->xs[j]?=some x->x.f.tight)/\Hid (Below w.heap.size w wr)) (fun iv _=>xs.length-(intOf iv).toNat)
  case atStart=>exact⟨0,Nat.zero_le _,rfl,fun j x h=>absurd h (Nat.not_lt_zero j),Br _ _⟩
  case round =>
   obtain⟨k,hk,rfl,HS,HB⟩:=hrel
   by_cases hlt:k<xs.length
   ·obtain⟨x,hx⟩:∃x,xs[k]?=some x:=⟨xs[k],Lg hlt⟩
    obtain⟨b,off,rfl,hbl,hc⟩:=HR.out.1.addr (k:=k) (cs:=x.cells) (by rw[List.getElem?_map,hx];rfl);have hxm:=List.mem_of_getElem? hx;have hfx:=HF.out x hxm;have HC:Hid (∀j v,x.arr.toList[j]?=some v->wr.cell? ⟨b,off+k*21+j,none⟩=some v):=fun j v hv=>(HB.out.cell (p:=⟨b,off+k*21+j,none⟩) hbl).trans (hc j v hv)
    have HSZ:Hid ((prog.info? 59).map (·.size)=some x.arr.size):=aY x.f x.pa x.oa x.pc x.oc;have HG:Hid (Calls prog 117 #[.agg x.arr] wr fun e w'=>(∃g,e=.returned (.bool g)/\(g=false->x.f.tight))/\Below wr.heap.size wr w'):=qH x.f x.pa x.oa x.pc x.oc wr ((HR.out.2 x hxm).below HB.out) (by have:=hfx.npicks;unfold maxLen at this;omega) (by have:=hfx.noptions;unfold maxLen at this;omega);have HK:Hid (x.f.tight->∀j y,j<k+1->xs[j]?=some y->y.f.tight):=fun h j y hj hy=>by
     by_cases e:j=k
     ·subst e;rw[hx] at hy;injection hy with hy;subst hy;exact h
     ·exact HS.out j y (by omega) hy
    clear HS hc hx hxm hfx;generalize x.arr=fc at *;go_wp2_with (refine aM rfl 59 _ rfl b (off+k*21) rfl fc _ HC.out underlying59 rfl HSZ.out ?_);refine HG.out.mono ?_;rintro e w1 ⟨⟨g,rfl,hg⟩,hb⟩;have HB1:=Hd (aA HB.out hb);cases g with
    |true =>
     go_wp2;go_ret;exact⟨⟨true,rfl,fun h=>by cases h⟩,HB1.out⟩
    |false =>
     have HK2:=Hd (HK.out (hg rfl));clear hg HK;go_wp2;go_roundw
     case rel=>exact⟨k+1,by omega,by go_num,HK2,HB1⟩
     case measure=>simp[intOf];omega
   ·obtain rfl:k=xs.length:=by omega
    have HA:Hid (∀x,x∈xs->x.f.tight):=fun x hx=>by
     obtain⟨j,hj⟩:=List.getElem?_of_mem hx;exact HS.out j x (Li.1 hj).1 hj
    clear HS;go_wp2;go_ret;exact⟨⟨_,rfl,fun _=>⟨HA.out,HSZ0.out⟩⟩,HB.out⟩
 ·have h1002:¬ (1002:Int)<xs.length:=by omega
  go_enter func64,ntmps64;go_wp2_with fail;go_loopw [3] (fun iv wr=>∃k:Nat,k<=xs.length/\iv=.int .i64 k/\Hid (∀j x,j<k->xs[j]?=some x->x.f.tight)/\Hid (Below w.heap.size w wr)) (fun iv _=>xs.length-(intOf iv).toNat)
  case atStart=>exact⟨0,Nat.zero_le _,rfl,fun j x h=>absurd h (Nat.not_lt_zero j),Br _ _⟩
  case round =>
   obtain⟨k,hk,rfl,HS,HB⟩:=hrel
   by_cases hlt:k<xs.length
   ·obtain⟨x,hx⟩:∃x,xs[k]?=some x:=⟨xs[k],Lg hlt⟩
    obtain⟨b,off,rfl,hbl,hc⟩:=HR.out.1.addr (k:=k) (cs:=x.cells) (by rw[List.getElem?_map,hx];rfl);have hxm:=List.mem_of_getElem? hx;have hfx:=HF.out x hxm;have HC:Hid (∀j v,x.arr.toList[j]?=some v->wr.cell? ⟨b,off+k*21+j,none⟩=some v):=fun j v hv=>(HB.out.cell (p:=⟨b,off+k*21+j,none⟩) hbl).trans (hc j v hv)
    have HSZ:Hid ((prog.info? 59).map (·.size)=some x.arr.size):=aY x.f x.pa x.oa x.pc x.oc;have HG:Hid (Calls prog 117 #[.agg x.arr] wr fun e w'=>(∃g,e=.returned (.bool g)/\(g=false->x.f.tight))/\Below wr.heap.size wr w'):=qH x.f x.pa x.oa x.pc x.oc wr ((HR.out.2 x hxm).below HB.out) (by have:=hfx.npicks;unfold maxLen at this;omega) (by have:=hfx.noptions;unfold maxLen at this;omega);have HK:Hid (x.f.tight->∀j y,j<k+1->xs[j]?=some y->y.f.tight):=fun h j y hj hy=>by
     by_cases e:j=k
     ·subst e;rw[hx] at hy;injection hy with hy;subst hy;exact h
     ·exact HS.out j y (by omega) hy
    clear HS hc hx hxm hfx;generalize x.arr=fc at *;go_wp2_with (refine aM rfl 59 _ rfl b (off+k*21) rfl fc _ HC.out underlying59 rfl HSZ.out ?_);refine HG.out.mono ?_;rintro e w1 ⟨⟨g,rfl,hg⟩,hb⟩;have HB1:=Hd (aA HB.out hb);cases g with
    |true =>
     go_wp2;go_ret;exact⟨⟨true,rfl,fun h=>by cases h⟩,HB1.out⟩
    |false =>
     have HK2:=Hd (HK.out (hg rfl));clear hg HK;go_wp2;go_roundw
     case rel=>exact⟨k+1,by omega,by go_num,HK2,HB1⟩
     case measure=>simp[intOf];omega
   ·obtain rfl:k=xs.length:=by omega
    have HA:Hid (∀x,x∈xs->x.f.tight):=fun x hx=>by
     obtain⟨j,hj⟩:=List.getElem?_of_mem hx;exact HS.out j x (Li.1 hj).1 hj
    clear HS;go_wp2;go_ret;exact⟨⟨_,rfl,fun _=>⟨HA.out,HSZ0.out⟩⟩,HB.out⟩
end Go.Proofs.YtejkibnaidiklaaGreatDoor
