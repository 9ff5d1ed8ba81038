/- Awake32A Awake32 Elections Great32 ElectionDefaultLaw -/
import Derived.Test.YtejkibnaidiklaaGreatDoorJMem
import Derived.Test.YtejkibnaidiklaaGreatDoorJWhereA
import Derived.Test.YtejkibnaidiklaaGreatDoorJRowF
import Derived.Test.YtejkibnaidiklaaGreatDoorJGreat2
import Derived.Lib.SliceRun
set_option maxHeartbeats 16000000
set_option maxRecDepth 100000
namespace Go.Proofs.YtejkibnaidiklaaGreatDoor
section
open Go Go.RowKit Num
def Et(key:List UInt8)(d ch:Int):aE:=⟨key,0,false,d,11,[97,98,99],[],[],[109],[],[],[],⟨[],[]⟩,⟨[],[]⟩,⟨[],[]⟩,[],[],ch⟩
def pF(key:List UInt8)(d ch:Int):aF:=⟨Et key d ch,none,0,none,0⟩
def xH:aE:=⟨[109],0,false,20,10,[97,98,99],[],[],[],[],[],[],⟨[],[]⟩,⟨[],[]⟩,⟨[],[]⟩,[],[⟨[],⟨[],[]⟩,⟨[53],[]⟩,⟨[],[]⟩⟩,⟨[],⟨[],[]⟩,⟨[54],[]⟩,⟨[],[]⟩⟩],0⟩
def oP(g:Nat):aF:=⟨xH,none,0,some ⟨g,0,none⟩,2⟩
def xF(g:Nat):List aF:=[pF [97] 15 1,pF [98] 18 0,oP g]
theorem aAo(key:List UInt8)(d ch:Int)(h:key.length≤1000):(pF key d ch).ok:=by
 refine⟨⟨h,by simp[pF,Et],by simp[pF,Et],by simp[pF,Et],by simp[pF,Et],by simp[pF,Et],by simp[pF,Et],by simp[pF,Et],⟨by simp[pF,Et],by simp[pF,Et]⟩,⟨by simp[pF,Et],by simp[pF,Et]⟩,⟨by simp[pF,Et],by simp[pF,Et]⟩,by simp[pF,Et],fun p hp=>?_,by simp[pF,Et],fun o ho=>?_⟩,by simp[pF,Et]⟩
 ·cases hp
 ·cases ho
theorem Va(g:Nat):(oP g).ok:=by
 refine⟨⟨by simp[oP,xH],by simp[oP,xH],by simp[oP,xH],by simp[oP,xH],by simp[oP,xH],by simp[oP,xH],by simp[oP,xH],by simp[oP,xH],⟨by simp[oP,xH],by simp[oP,xH]⟩,⟨by simp[oP,xH],by simp[oP,xH]⟩,⟨by simp[oP,xH],by simp[oP,xH]⟩,by simp[oP,xH],fun p hp=>?_,by simp[oP,xH],fun o ho=>?_⟩,by simp[oP,xH]⟩
 ·cases hp
 ·have:o=⟨[],⟨[],[]⟩,⟨[53],[]⟩,⟨[],[]⟩⟩∨o=⟨[],⟨[],[]⟩,⟨[54],[]⟩,⟨[],[]⟩⟩:=by simpa[oP,xH] using ho
  rcases this with rfl|rfl <;> exact⟨by simp,⟨by simp,by simp⟩,⟨by simp,by simp⟩,⟨by simp,by simp⟩⟩
theorem Cy(key:List UInt8)(d ch:Int)(w:World):(pF key d ch).f.Behind w none none:=⟨.inl rfl,.inl rfl⟩
def lG:List Value:=[.string ⟨#[]⟩,.string ⟨#[]⟩,.string ⟨#[]⟩,.string ⟨#[53]⟩,.string ⟨#[]⟩,.string ⟨#[]⟩,.string ⟨#[]⟩,.string ⟨#[]⟩,.string ⟨#[]⟩,.string ⟨#[]⟩,.string ⟨#[54]⟩,.string ⟨#[]⟩,.string ⟨#[]⟩,.string ⟨#[]⟩]
theorem vF{g:Nat}{w:World}(h:aP w g lG.toArray 197):(oP g).f.Behind w none (some ⟨g,0,none⟩):=by
 refine⟨.inl rfl,.inr ⟨g,0,rfl,h.1,fun k cs hk j v hv=>?_⟩⟩;have hc:=h.cell (0+k*7+j);rw[hc];have hk':[[Value.string ⟨#[]⟩,.string ⟨#[]⟩,.string ⟨#[]⟩,.string ⟨#[53]⟩,.string ⟨#[]⟩,.string ⟨#[]⟩,.string ⟨#[]⟩],[.string ⟨#[]⟩,.string ⟨#[]⟩,.string ⟨#[]⟩,.string ⟨#[54]⟩,.string ⟨#[]⟩,.string ⟨#[]⟩,.string ⟨#[]⟩]][k]?=some cs:=hk
 match k,hk' with
 |0,e =>
  obtain rfl:=Option.some.inj e
  match j,hv with
  |0,hv|1,hv|2,hv|3,hv|4,hv|5,hv|6,hv=>exact hv
  |j+7,hv=>simp at hv
 |1,e =>
  obtain rfl:=Option.some.inj e
  match j,hv with
  |0,hv|1,hv|2,hv|3,hv|4,hv|5,hv|6,hv=>exact hv
  |j+7,hv=>simp at hv
 |k+2,e=>simp at e
def Ig:List aE:=[Et [97] 15 1,Et [98] 18 0,xH]
theorem Eo(g:Nat):(xF g).map aF.f=Ig:=rfl
theorem Lr:dF Ig=0:=by decide +kernel
theorem xG:bC Ig xH=0∧aL Ig xH=0:=by decide +kernel
theorem tV:bC (Ig.take 1) xH=1∧aL (Ig.take 1) xH=0:=by decide +kernel
theorem Rb:dZ Ig=[[97]]:=by decide +kernel
end
section
open Go Go.RowKit Num
theorem Kb(x y z:aF)(w:World):(Instr.buildSlice 22 3 #[(0,.agg x.arr),(1,.agg y.arr),(2,.agg z.arr)]).run Tryz.prog w=.ok (.slice (some ⟨w.heap.size,0,none⟩) 3 3) (w.alloc (.cells (x.arr++y.arr++z.arr) 59)):=by
 unfold aF.arr aE.cells;simp[go_sem]
theorem lA{P:Program}{ops:Array Oper}{rest:List Oper}{o:Oper}{a:Act}{w w':World}{Q:Exit→Act→World→Prop}(hgd:o.guard=none)(t:TypeId)(n:Nat)(ps:Array (Nat×Operand))(ho:o.op=.buildSlice t n ps)(qs:Array (Nat×Value))(v:Value)
  (hps:(ps.map fun (i,x)=>(i,a.eval x))=qs) (hrun:(Instr.buildSlice t n qs).run P w=.ok v w') (h:wpList P ops Q rest (a.put o.dst v) w'):wpList P ops Q (o::rest) a w:=by
 refine wpList_plain hgd fun K hK=>Dp ho (v:=v) (w':=w') ?_ (hK _ _ h)
 rw[hps];exact hrun
theorem Fy{w:World}{B:Nat}(x y z:aF)(h:w.heap[B]?=some (.cells (x.arr++y.arr++z.arr) 59 (0,0))):gJ w (some ⟨B,0,none⟩) 21 ([x,y,z].map aF.cells):=by
 refine oY (by decide) Fa (.inr ⟨B,0,rfl,(Ai.1 h).1,fun j v hv=>?_⟩);rw[aS h,←hv,←Array.getElem?_toList];simp[aF.cells]
def Zy:List (Nat×Nat):=[(0,19),(1,20),(2,21),(3,22),(4,18),(5,23),(6,24),(7,4),(8,5)]
structure Nb where
 W0:World
 B:Nat
def awV(B:Nat):Nat→Value
 |0=>.slice (some ⟨B,0,none⟩) 3 3
 |1=>.slice (some ⟨B,0,none⟩) 1 3
 |3=>.tuple #[.int .i64 1,.int .i64 0]
 |4=>.tuple #[.int .i64 1,.int .i64 0]
 |5=>.int .i64 1
 |6=>.int .i64 0
 |7=>.int .i64 1
 |_=>.int .i64 0
def Nb.val(C:Nb)(γ:Nat)(j:Nat):Value:=if j=2 then .agg (oP γ).arr else awV C.B j
def Nb.g(C:Nb)(γ:Nat)(l:Array Bool)(W:World):Prop:=Below C.W0.heap.size C.W0 W∧(lP l 2→aP W γ lG.toArray 197)
section
variable {C:Nb}{t0:Array Value}{Q:Exit→Act→World→Prop}{l:Array Bool}{w:World}{γ:Nat}
theorem Nb.keep{i:Nat}(hi:i≠2)(h:C.g γ l w):C.g γ (l.setIfInBounds i true) w:=⟨h.1,fun h2=>h.2 (mQ h2 (Ne.symm hi))⟩
end
end
section
open Go Go.RowKit Go.Shelf Num
def lR(key:List UInt8)(y:aE):Bool:=decide (y.kind=11)&&(y.target==key)
theorem tF(fc:Array Value)(hs:fc.size=21)(w:World):(Instr.buildSlice 22 1 #[(0,.agg fc)]).run Tryz.prog w=.ok (.slice (some ⟨w.heap.size,0,none⟩) 1 1) (w.alloc (.cells fc 59)):=by
 obtain⟨l⟩:=fc
 match l,hs with
 | [a0,a1,a2,a3,a4,a5,a6,a7,a8,a9,a10,a11,a12,a13,a14,a15,a16,a17,a18,a19,a20],_=>simp[go_sem]
theorem yK{F:Fence}{n:Nat}{P:Program}{ops:Array Oper}{Q:Exit→Act→World→Prop}{a:Act}{w w':World}{rest:List Oper}{o:Oper}(hgd:Region.wanted o (yielded ops a.tmps)=true)(t:TypeId)(m:Nat)(ps:Array (Nat×Operand))(ho:o.op=.buildSlice t m ps)(qs:Array (Nat×Value))(v:Value)
  (hps:(ps.map fun (i,x)=>(i,a.eval x))=qs) (hrun:(Instr.buildSlice t m qs).run P w=.ok v w') (h:wpListIn F n P ops Q rest (a.put o.dst v) w'):wpListIn F n P ops Q (o::rest) a w:=by
 refine wpListIn_step fun K hK=>?_
 rw[if_pos hgd];refine⟨fun f hf=>(by unfold Oper.about at hf;rw[ho] at hf;cases hf),?_⟩;rw[Oper.semAt_plain F _ _ (by rw[ho];intro c hc;cases hc)];have e:(execOp a.eval o).run P w=.ok (.value v) w':=by
  unfold execOp;simp only[ho];rw[hps];simp[hrun,Result.andThen]
 rw[e];exact hK _ _ h
theorem Qf{W:World}{B:Nat}{fc:Array Value}{T:TypeId}(hB:W.heap[B]?=some (.cells fc T (0,0))):∀j u,fc.toList[j]?=some u→W.cell? ((⟨B,0,none⟩:Addr).add j)=some u:=by
 intro j u hu;rw[lM,Nat.zero_add,aS hB j,←Array.getElem?_toList];exact hu
attribute [local go_sem] Oper.semAt_some
end
section
open Go Go.RowKit Num
theorem Bp(xs:List aF)(a:Option Addr)(c:Nat)(w:World)(hn:xs.length≤9223372036854775807)(hr:fS w a xs)(hf:∀x,x∈xs→x.fits):
  Calls Tryz.prog 64 #[.slice a xs.length c] w fun e w'=>uK ((∀x,x∈xs→x.f.tight)∧(xs.length≤12∨1000<xs.length∧xs.length≤1003)) e∧Below w.heap.size w w':=by
 have HR:=Hd hr;have HF:=Hd hf;clear hr hf
 by_cases hbad:(12<xs.length∧xs.length≤1000)∨1002<xs.length
 ·clear HR HF;generalize xs.length=n at *;rcases hbad with⟨h1,h2⟩|h1
  ·have d1:decide (12<(n:Int))=true:=by simpa using(by omega:(12:Int)<n)
   have d2:decide ((n:Int)≤1000)=true:=by simpa using(by omega:(n:Int)≤1000)
   go_enter Tryz.func64,Tryz.ntmps64;go_wp2;go_ret;exact⟨⟨true,rfl,fun h=>by cases h⟩,Br _ _⟩
  ·have d1:decide (12<(n:Int))=true:=by simpa using(by omega:(12:Int)<n)
   have d2:decide ((n:Int)≤1000)=false:=by simpa using(by omega:¬ (n:Int)≤1000)
   have d3:decide (1002<(n:Int))=true:=by simpa using(by omega:(1002:Int)<n)
   go_enter Tryz.func64,Tryz.ntmps64;go_wp2;go_ret;exact⟨⟨true,rfl,fun h=>by cases h⟩,Br _ _⟩
 have HSZ0:Hid (xs.length≤12∨1000<xs.length∧xs.length≤1003):=by show _∨_;omega
 by_cases h12:12<xs.length
 ·have h1000:¬ (xs.length:Int)≤1000:=by omega
  have h1002:¬ (1002:Int)<xs.length:=by omega
  go_enter Tryz.func64,Tryz.ntmps64;go_wp2_with fail;go_loopw [3] (fun iv wr=>∃k:Nat,k≤xs.length∧iv=.int .i64 k∧Hid (∀j x,j<k→xs[j]?=some x→x.f.tight)∧Hid (Below w.heap.size w wr)) (fun iv _=>xs.length-(intOf iv).toNat)
  case atStart=>exact⟨0,Nat.zero_le _,rfl,fun j x h=>absurd h (Nat.not_lt_zero j),Br _ _⟩
  case round =>
   obtain⟨k,hk,rfl,HS,HB⟩:=hrel
   by_cases hlt:k<xs.length
   ·obtain⟨x,hx⟩:∃x,xs[k]?=some x:=⟨xs[k],Lg hlt⟩
    obtain⟨b,off,rfl,hbl,hc⟩:=HR.out.1.addr (k:=k) (cs:=x.cells) (by rw[List.getElem?_map,hx];rfl);have hxm:=List.mem_of_getElem? hx;have hfx:=HF.out x hxm;have HC:Hid (∀j v,x.arr.toList[j]?=some v→wr.cell? ⟨b,off+k*21+j,none⟩=some v):=fun j v hv=>(HB.out.cell (p:=⟨b,off+k*21+j,none⟩) hbl).trans (hc j v hv)
    have HSZ:Hid ((Tryz.prog.info? 59).map (·.size)=some x.arr.size):=aY x.f x.pa x.oa x.pc x.oc;have HG:Hid (Calls Tryz.prog 117 #[.agg x.arr] wr fun e w'=>(∃g,e=.returned (.bool g)∧(g=false→x.f.tight))∧Below wr.heap.size wr w'):=qH x.f x.pa x.oa x.pc x.oc wr ((HR.out.2 x hxm).below HB.out) (by have:=hfx.npicks;unfold maxLen at this;omega) (by have:=hfx.noptions;unfold maxLen at this;omega);have HK:Hid (x.f.tight→∀j y,j<k+1→xs[j]?=some y→y.f.tight):=fun h j y hj hy=>by
     by_cases e:j=k
     ·subst e;rw[hx] at hy;injection hy with hy;subst hy;exact h
     ·exact HS.out j y (by omega) hy
    clear HS hc hx hxm hfx;generalize x.arr=fc at *;go_wp2_with (refine aM rfl 59 _ rfl b (off+k*21) rfl fc _ HC.out Tryz.underlying59 rfl HSZ.out ?_);refine HG.out.mono ?_;rintro e w1 ⟨⟨g,rfl,hg⟩,hb⟩;have HB1:=Hd (aA HB.out hb);cases g with
    |true =>
     go_wp2;go_ret;exact⟨⟨true,rfl,fun h=>by cases h⟩,HB1.out⟩
    |false =>
     have HK2:=Hd (HK.out (hg rfl));clear hg HK;go_wp2;go_roundw
     case rel=>exact⟨k+1,by omega,by go_num,HK2,HB1⟩
     case measure=>simp[intOf];omega
   ·obtain rfl:k=xs.length:=by omega
    have HA:Hid (∀x,x∈xs→x.f.tight):=fun x hx=>by
     obtain⟨j,hj⟩:=List.getElem?_of_mem hx;exact HS.out j x (Li.1 hj).1 hj
    clear HS;go_wp2;go_ret;exact⟨⟨_,rfl,fun _=>⟨HA.out,HSZ0.out⟩⟩,HB.out⟩
 ·have h1002:¬ (1002:Int)<xs.length:=by omega
  go_enter Tryz.func64,Tryz.ntmps64;go_wp2_with fail;go_loopw [3] (fun iv wr=>∃k:Nat,k≤xs.length∧iv=.int .i64 k∧Hid (∀j x,j<k→xs[j]?=some x→x.f.tight)∧Hid (Below w.heap.size w wr)) (fun iv _=>xs.length-(intOf iv).toNat)
  case atStart=>exact⟨0,Nat.zero_le _,rfl,fun j x h=>absurd h (Nat.not_lt_zero j),Br _ _⟩
  case round =>
   obtain⟨k,hk,rfl,HS,HB⟩:=hrel
   by_cases hlt:k<xs.length
   ·obtain⟨x,hx⟩:∃x,xs[k]?=some x:=⟨xs[k],Lg hlt⟩
    obtain⟨b,off,rfl,hbl,hc⟩:=HR.out.1.addr (k:=k) (cs:=x.cells) (by rw[List.getElem?_map,hx];rfl);have hxm:=List.mem_of_getElem? hx;have hfx:=HF.out x hxm;have HC:Hid (∀j v,x.arr.toList[j]?=some v→wr.cell? ⟨b,off+k*21+j,none⟩=some v):=fun j v hv=>(HB.out.cell (p:=⟨b,off+k*21+j,none⟩) hbl).trans (hc j v hv)
    have HSZ:Hid ((Tryz.prog.info? 59).map (·.size)=some x.arr.size):=aY x.f x.pa x.oa x.pc x.oc;have HG:Hid (Calls Tryz.prog 117 #[.agg x.arr] wr fun e w'=>(∃g,e=.returned (.bool g)∧(g=false→x.f.tight))∧Below wr.heap.size wr w'):=qH x.f x.pa x.oa x.pc x.oc wr ((HR.out.2 x hxm).below HB.out) (by have:=hfx.npicks;unfold maxLen at this;omega) (by have:=hfx.noptions;unfold maxLen at this;omega);have HK:Hid (x.f.tight→∀j y,j<k+1→xs[j]?=some y→y.f.tight):=fun h j y hj hy=>by
     by_cases e:j=k
     ·subst e;rw[hx] at hy;injection hy with hy;subst hy;exact h
     ·exact HS.out j y (by omega) hy
    clear HS hc hx hxm hfx;generalize x.arr=fc at *;go_wp2_with (refine aM rfl 59 _ rfl b (off+k*21) rfl fc _ HC.out Tryz.underlying59 rfl HSZ.out ?_);refine HG.out.mono ?_;rintro e w1 ⟨⟨g,rfl,hg⟩,hb⟩;have HB1:=Hd (aA HB.out hb);cases g with
    |true =>
     go_wp2;go_ret;exact⟨⟨true,rfl,fun h=>by cases h⟩,HB1.out⟩
    |false =>
     have HK2:=Hd (HK.out (hg rfl));clear hg HK;go_wp2;go_roundw
     case rel=>exact⟨k+1,by omega,by go_num,HK2,HB1⟩
     case measure=>simp[intOf];omega
   ·obtain rfl:k=xs.length:=by omega
    have HA:Hid (∀x,x∈xs→x.f.tight):=fun x hx=>by
     obtain⟨j,hj⟩:=List.getElem?_of_mem hx;exact HS.out j x (Li.1 hj).1 hj
    clear HS;go_wp2;go_ret;exact⟨⟨_,rfl,fun _=>⟨HA.out,HSZ0.out⟩⟩,HB.out⟩
def Wh(P:Prop)(e:Ending):Prop:=∃i:Int,e=.returned (.int .i64 i)∧(decide (0≤i)=false→P)
theorem zS(xs:List aF)(a:Option Addr)(c:Nat)(w:World)(hn:xs.length≤1000000)(hr:fS w a xs)(hf:∀x,x∈xs→x.fits):
  Calls Tryz.prog 72 #[.slice a xs.length c,.func (.func 117) #[] #[]] w fun e w'=>Wh (∀x,x∈xs→x.f.tight) e∧Below w.heap.size w w':=by
 have HR:=Hd hr;have HF:=Hd hf;clear hr hf;go_enter Tryz.func72,Tryz.ntmps72;go_wp2_with fail;go_loopw [8] (fun iv wr=>∃k:Nat,k≤xs.length∧iv=.int .i64 k∧Hid (∀j x,j<k→xs[j]?=some x→x.f.tight)∧Hid (Below w.heap.size w wr)) (fun iv _=>xs.length-(intOf iv).toNat)
 case atStart=>exact⟨0,Nat.zero_le _,rfl,fun j x h=>absurd h (Nat.not_lt_zero j),Br _ _⟩
 case round =>
  obtain⟨k,hk,rfl,HS,HB⟩:=hrel
  by_cases hlt:k<xs.length
  ·obtain⟨x,hx⟩:∃x,xs[k]?=some x:=⟨xs[k],Lg hlt⟩
   obtain⟨b,off,rfl,hbl,hc⟩:=HR.out.1.addr (k:=k) (cs:=x.cells) (by rw[List.getElem?_map,hx];rfl);have hxm:=List.mem_of_getElem? hx;have hfx:=HF.out x hxm;have HC:Hid (∀j v,x.arr.toList[j]?=some v→wr.cell? ⟨b,off+k*21+j,none⟩=some v):=fun j v hv=>(HB.out.cell (p:=⟨b,off+k*21+j,none⟩) hbl).trans (hc j v hv)
   have HSZ:Hid ((Tryz.prog.info? 59).map (·.size)=some x.arr.size):=aY x.f x.pa x.oa x.pc x.oc;have HG:Hid (Calls Tryz.prog 117 #[.agg x.arr] wr fun e w'=>(∃g,e=.returned (.bool g)∧(g=false→x.f.tight))∧Below wr.heap.size wr w'):=qH x.f x.pa x.oa x.pc x.oc wr ((HR.out.2 x hxm).below HB.out) (by have:=hfx.npicks;unfold maxLen at this;omega) (by have:=hfx.noptions;unfold maxLen at this;omega);have HK:Hid (x.f.tight→∀j y,j<k+1→xs[j]?=some y→y.f.tight):=fun h j y hj hy=>by
    by_cases e:j=k
    ·subst e;rw[hx] at hy;injection hy with hy;subst hy;exact h
    ·exact HS.out j y (by omega) hy
   clear HS hc hx hxm hfx;generalize x.arr=fc at *;go_wp2_with (refine aM rfl 59 _ rfl b (off+k*21) rfl fc _ HC.out Tryz.underlying59 rfl HSZ.out ?_);refine HG.out.mono ?_;rintro e w1 ⟨⟨g,rfl,hg⟩,hb⟩;have HB1:=Hd (aA HB.out hb);cases g with
   |true =>
    go_wp2;go_ret;exact⟨⟨_,rfl,fun h=>by simp at h⟩,HB1.out⟩
   |false =>
    have HK2:=Hd (HK.out (hg rfl));clear hg HK;go_wp2;go_roundw
    case rel=>exact⟨k+1,by omega,by go_num,HK2,HB1⟩
    case measure=>simp[intOf];omega
  ·obtain rfl:k=xs.length:=by omega
   have HA:Hid (∀x,x∈xs→x.f.tight):=fun x hx=>by
    obtain⟨j,hj⟩:=List.getElem?_of_mem hx;exact HS.out j x (Li.1 hj).1 hj
   clear HS;go_wp2;go_ret;exact⟨⟨_,rfl,fun _=>HA.out⟩,HB.out⟩
theorem uD(xs:List aF)(a:Option Addr)(c:Nat)(w:World)(hn:xs.length≤1000000)(hr:fS w a xs)(hf:∀x,x∈xs→x.fits):
  Calls Tryz.prog 35 #[.slice a xs.length c,.func (.func 117) #[] #[]] w fun e w'=>uK (∀x,x∈xs→x.f.tight) e∧Below w.heap.size w w':=by
 have HI:=Hd (zS xs a c w hn hr hf);clear hr hf hn;generalize(∀x,x∈xs→x.f.tight)=P at *;generalize xs.length=n at *;go_enter Tryz.func35,Tryz.ntmps35;go_wp2_with fail;refine HI.out.mono ?_;rintro e w1 ⟨⟨i,rfl,hi⟩,hb⟩;go_wp2;go_ret;exact⟨⟨_,rfl,hi⟩,hb⟩
end
section
open Go Go.RowKit Num
theorem uV{w:World}{B:Nat}(x:aF)(h:aP w B x.arr 59)(hb:x.f.Behind w x.pa x.oa):fS w (some ⟨B,0,none⟩) [x]:=by
 refine⟨oY (by decide) Fa (.inr ⟨B,0,rfl,h.1,fun j v hv=>?_⟩),fun y hy=>?_⟩
 ·rw[Nat.zero_add,h.cell j,←hv,←Array.getElem?_toList];simp[aF.cells]
 ·rw[List.mem_singleton] at hy;subst hy;exact hb
theorem oS{fs:List aE}{f:aE}(h:aL fs f=0):dF fs=0∧dQ f=0:=by
 unfold aL at h;split at h
 ·cases h
 ·rename_i h';exact⟨by rcases Decidable.em (dF fs=0) with h|h;exact h;exact absurd (.inl h) h',by rcases Decidable.em (dQ f=0) with h|h;exact h;exact absurd (.inr h) h'⟩
theorem pK{fs:List aE}{f:aE}(h:aL fs f=0):bC fs f=eZ fs f:=by unfold bC;rw[if_neg (by simpa using h)]
theorem Mh{fs:List aE}{f:aE}(h:aL fs f≠0):bC fs f=0:=by unfold bC;rw[if_pos h]
theorem vJ{fs:List aE}{f:aE}(h1:dF fs=0)(h2:dQ f=0):aL fs f=0:=by unfold aL;rw[if_neg (by simp[h1,h2])]
theorem Fs{f:aE}(h:dQ f=0):dC f.key=true :=
 ((mY (nM (iR h).1 (by rw[(iR h).2];decide))).1 (iR h).1).1
theorem Sd(xs:List aF)(p:aE→Bool):(eF xs p 0).map aF.f=(xs.map aF.f).filter p:=by
 rw[mG,List.filter_map];rfl
theorem Fu{xs:List aF}{p:aE→Bool}{x:aF}(h:x∈eF xs p 0):x∈xs:=by
 rw[mG] at h;exact(List.mem_filter.1 h).1
theorem Se(xs:List aF)(p:aE→Bool):(eF xs p 0).length≤xs.length:=by rw[mG];exact List.length_filter_le _ _
end
end Go.Proofs.YtejkibnaidiklaaGreatDoor
