/- Great13 EncLen13 BoxList13 -/
import Derived.Test.YthjekgfoidmagaaGreatDoorUReadX
set_option maxHeartbeats 16000000
set_option maxRecDepth 100000
namespace Go.Proofs.YthjekgfoidmagaaGreatDoor
open Go.Proofs.Tryz
section
open Go Go.RowKit Num
theorem bRt{f:aE}(h:f.tight):f.picks.length<=1000000/\f.options.length<=1000000:=⟨Nat.le_trans h.small.picks (by decide),Nat.le_trans h.small.options (by decide)⟩
def bHh(P:Prop)(e:Ending):Prop:=∃g:Bool,e=.returned (.bool g)/\(g=false->P)
def bMt(P:Prop)(e:Ending):Prop:=∃i:Int,e=.returned (.int .i64 i)/\(decide (0<=i)=false->P)
theorem bH5(xs:List aF)(a:Option Addr)(c:Nat)(w:World)(hn:xs.length<=1000000)(hr:fS w a xs)(hf:∀x,x∈xs->x.fits):
  Calls prog 82 #[.slice a xs.length c,.func (.func 32) #[] #[]] w fun e w'=>bMt (∀x,x∈xs->x.f.tight) e/\Below w.heap.size w w':=by
 have HR:=Hd hr;have HF:=Hd hf;clear hr hf;go_enter func82,ntmps82;go_wp2_with fail;go_loopw [8] (fun iv wr=>∃k:Nat,k<=xs.length/\iv=.int .i64 k/\Hid (∀j x,j<k->xs[j]?=some x->x.f.tight)/\Hid (Below w.heap.size w wr)) (fun iv _=>xs.length-(intOf iv).toNat)
 case atStart=>exact⟨0,Nat.zero_le _,rfl,fun j x h=>absurd h (Nat.not_lt_zero j),Br _ _⟩
 case round =>
  obtain⟨k,hk,rfl,HS,HB⟩:=hrel
  by_cases hlt:k<xs.length
  ·obtain⟨x,hx⟩:∃x,xs[k]?=some x:=⟨xs[k],Lg hlt⟩
   obtain⟨b,off,rfl,hbl,hc⟩:=HR.out.1.addr (k:=k) (cs:=x.cells) (by rw[List.getElem?_map,hx];rfl);have hxm:=List.mem_of_getElem? hx;have hfx:=HF.out x hxm;have HC:Hid (∀j v,x.arr.toList[j]?=some v->wr.cell? ⟨b,off+k*21+j,none⟩=some v):=fun j v hv=>(HB.out.cell (p:=⟨b,off+k*21+j,none⟩) hbl).trans (hc j v hv)
   have HSZ:Hid ((prog.info? 29).map (·.size)=some x.arr.size):=aY x.f x.pa x.oa x.pc x.oc;have HG:Hid (Calls prog 32 #[.agg x.arr] wr fun e w'=>(∃g,e=.returned (.bool g)/\(g=false->x.f.tight))/\Below wr.heap.size wr w'):=qH x.f x.pa x.oa x.pc x.oc wr ((HR.out.2 x hxm).below HB.out) (by have:=hfx.npicks;unfold maxLen at this;omega) (by have:=hfx.noptions;unfold maxLen at this;omega);have HK:Hid (x.f.tight->∀j y,j<k+1->xs[j]?=some y->y.f.tight):=fun h j y hj hy=>by
    by_cases e:j=k
    ·subst e;rw[hx] at hy;injection hy with hy;subst hy;exact h
    ·exact HS.out j y (by omega) hy
   clear HS hc hx hxm hfx;generalize x.arr=fc at *;go_wp2_with (refine aM rfl 29 _ rfl b (off+k*21) rfl fc _ HC.out underlying29 rfl HSZ.out ?_);refine HG.out.mono ?_;rintro e w1 ⟨⟨g,rfl,hg⟩,hb⟩;have HB1:=Hd (aA HB.out hb);cases g with
   |true =>
    go_wp2;go_ret;exact⟨⟨_,rfl,fun h=>by simp at h⟩,HB1.out⟩
   |false =>
    have HK2:=Hd (HK.out (hg rfl));clear hg HK;go_wp2;go_roundw
    case rel=>exact⟨k+1,by omega,by go_num,HK2,HB1⟩
    case measure=>simp[intOf];omega
  ·obtain rfl:k=xs.length:=by omega
   have HA:Hid (∀x,x∈xs->x.f.tight):=fun x hx=>by
    obtain⟨j,hj⟩:=List.getElem?_of_mem hx;exact HS.out j x (Li.1 hj).1 hj
   clear HS;go_wp2;go_ret;exact⟨⟨_,rfl,fun _=>HA.out⟩,HB.out⟩
theorem bGy(xs:List aF)(a:Option Addr)(c:Nat)(w:World)(hn:xs.length<=1000000)(hr:fS w a xs)(hf:∀x,x∈xs->x.fits):
  Calls prog 31 #[.slice a xs.length c,.func (.func 32) #[] #[]] w fun e w'=>bHh (∀x,x∈xs->x.f.tight) e/\Below w.heap.size w w':=by
 have HI:=Hd (bH5 xs a c w hn hr hf);clear hr hf hn;generalize(∀x,x∈xs->x.f.tight)=P at *;generalize xs.length=n at *;go_enter func31,ntmps31;go_wp2_with fail;refine HI.out.mono ?_;rintro e w1 ⟨⟨i,rfl,hi⟩,hb⟩;go_wp2;go_ret;exact⟨⟨_,rfl,hi⟩,hb⟩
theorem bKl(xs:List aF)(a:Option Addr)(c:Nat)(w:World)(hn:xs.length<=1000000)(hr:fS w a xs)(hf:∀x,x∈xs->x.fits):
  Calls prog 10 #[.slice a xs.length c] w fun e w'=>bHh (∀x,x∈xs->x.f.tight) e/\Below w.heap.size w w':=by
 have HI:=Hd (bGy xs a c w hn hr hf);clear hr hf hn;generalize(∀x,x∈xs->x.f.tight)=P at *;generalize xs.length=n at *;go_enter func10,ntmps10;go_wp2_with fail;refine HI.out.mono ?_;rintro e w1 ⟨⟨g,rfl,hg⟩,hb⟩;go_wp2;go_ret;exact⟨⟨_,rfl,hg⟩,hb⟩
theorem bLd{w:World}(xs:List aF)(cs:Array Value)(hcs:cs.toList=(xs.map aF.cells).flatten)(hb:∀x,x∈xs->x.f.Behind w x.pa x.oa):fS (w.alloc (.cells cs 29)) (some ⟨w.heap.size,0,none⟩) xs:=by
 have hrow:dT (w.alloc (.cells cs 29)) (some ⟨w.heap.size,0,none⟩) cs.toList:=by
  have h:=aP.new0 w cs 29;refine .inr ⟨w.heap.size,0,rfl,h.1,fun k u hk=>?_⟩;rw[Nat.zero_add];refine(h.cell k).trans ?_;rw[<-Array.getElem?_toList];exact hk
 rw[hcs] at hrow;exact⟨bJn (N:=21) (by decide) (fun c hc=>by obtain⟨x,_,rfl⟩:=List.mem_map.1 hc;rfl) hrow,fun x hx=>(hb x hx).below (aB _ _)⟩
theorem bTt(x:aF)(w:World):(Instr.buildSlice 47 1 #[(0,.agg x.arr)]).run prog w=.ok (.slice (some ⟨w.heap.size,0,none⟩) 1 1) (w.alloc (.cells x.arr 29)):=by
 unfold aF.arr aE.cells;simp[go_sem]
theorem bTs(x y:aF)(w:World):(Instr.buildSlice 47 2 #[(0,.agg x.arr),(1,.agg y.arr)]).run prog w=.ok (.slice (some ⟨w.heap.size,0,none⟩) 2 2) (w.alloc (.cells (x.arr++y.arr) 29)):=by
 unfold aF.arr aE.cells;simp[go_sem]
theorem bOg(x y z:aF)(w:World):(Instr.buildSlice 47 3 #[(0,.agg x.arr),(1,.agg y.arr),(2,.agg z.arr)]).run prog w=.ok (.slice (some ⟨w.heap.size,0,none⟩) 3 3) (w.alloc (.cells (x.arr++y.arr++z.arr) 29)):=by
 unfold aF.arr aE.cells;simp[go_sem]
theorem bTl(x:aF)(w:World)(hx:x.f.Behind w x.pa x.oa)(fx:x.fits):Calls prog 10 #[.slice (some ⟨w.heap.size,0,none⟩) 1 1] (w.alloc (.cells x.arr 29)) fun e w'=>bHh x.f.tight e/\Below w.heap.size w w':=by
 refine(bKl [x] _ 1 _ (by simp) (bLd [x] x.arr (by simp[aF.cells]) (by simpa using hx)) (by simpa using fx)).mono ?_;rintro e w' ⟨⟨g,rfl,hg⟩,hb⟩;exact⟨⟨g,rfl,fun h=>hg h x (by simp)⟩,(aB _ _).trans (hb.mono (by rw[World.size_alloc];omega))⟩
theorem bTk(x y:aF)(w:World)(hx:x.f.Behind w x.pa x.oa)(hy:y.f.Behind w y.pa y.oa)(fx:x.fits)(fy:y.fits):Calls prog 10 #[.slice (some ⟨w.heap.size,0,none⟩) 2 2] (w.alloc (.cells (x.arr++y.arr) 29)) fun e w'=>bHh (x.f.tight/\y.f.tight) e/\Below w.heap.size w w':=by
 refine(bKl [x,y] _ 2 _ (by simp) (bLd [x,y] (x.arr++y.arr) (by simp[aF.cells]) (by intro z hz;rcases List.mem_cons.1 hz with rfl|hz;exact hx;obtain rfl:=List.mem_singleton.1 hz;exact hy)) (by intro z hz;rcases List.mem_cons.1 hz with rfl|hz;exact fx;obtain rfl:=List.mem_singleton.1 hz;exact fy)).mono ?_;rintro e w' ⟨⟨g,rfl,hg⟩,hb⟩;exact⟨⟨g,rfl,fun h=>⟨hg h x (by simp),hg h y (by simp)⟩⟩,(aB _ _).trans (hb.mono (by rw[World.size_alloc];omega))⟩
theorem bNt(x y z:aF)(w:World)(hx:x.f.Behind w x.pa x.oa)(hy:y.f.Behind w y.pa y.oa)(hz:z.f.Behind w z.pa z.oa)(fx:x.fits)(fy:y.fits)(fz:z.fits):Calls prog 10 #[.slice (some ⟨w.heap.size,0,none⟩) 3 3] (w.alloc (.cells (x.arr++y.arr++z.arr) 29)) fun e w'=>bHh (x.f.tight/\y.f.tight/\z.f.tight) e/\Below w.heap.size w w':=by
 refine(bKl [x,y,z] _ 3 _ (by simp) (bLd [x,y,z] (x.arr++y.arr++z.arr) (by simp[aF.cells]) (by intro u hu;rcases List.mem_cons.1 hu with rfl|hu;exact hx;rcases List.mem_cons.1 hu with rfl|hu;exact hy;obtain rfl:=List.mem_singleton.1 hu;exact hz)) (by intro u hu;rcases List.mem_cons.1 hu with rfl|hu;exact fx;rcases List.mem_cons.1 hu with rfl|hu;exact fy;obtain rfl:=List.mem_singleton.1 hu;exact fz)).mono ?_;rintro e w' ⟨⟨g,rfl,hg⟩,hb⟩;exact⟨⟨g,rfl,fun h=>⟨hg h x (by simp),hg h y (by simp),hg h z (by simp)⟩⟩,(aB _ _).trans (hb.mono (by rw[World.size_alloc];omega))⟩
end
section
open Go Go.RowKit Num
theorem bQg{l:List UInt8}(h:dC l=true):l.length<=16:=by
 unfold dC at h;simp only[Bool.and_eq_true,decide_eq_true_eq] at h;exact h.1.2
theorem bSo{l:List UInt8}(h:sP l=true):l.length<=21:=by
 unfold sP at h;rw[Bool.and_eq_true] at h;have h2:=bQg h.2;have h1:=h.1;unfold oL at h1;simp only[Bool.and_eq_true,decide_eq_true_eq] at h1;obtain⟨⟨⟨h3,h4⟩,_⟩,_⟩:=h1;have e:=congrArg List.length (bQa l);rw[e];split
 ·rw[List.length_append,List.length_cons];omega
 ·omega
theorem bQ6{z:Int}(h0:0<=z)(h1:z<=9223372036854775807):(Lib.itoa z).length<=19:=by
 obtain⟨n,rfl⟩:=Int.eq_ofNat_of_zero_le h0;rw[Lib.itoa_nonneg,Lib.decDigits_length];exact jU n 19 (by decide) (by omega)
theorem bKb{f:bZ}(h:f.small):(bDj f).length<=803:=by
 have l1:(aJ (eT (val f.n) (lU f.d))).length<=401:=uE (K:=400) (by decide) (Sy (qQ f.d)) rfl h.1;have l2:(aJ (fT (val f.n) (lU f.d))).length<=401:=uE (K:=400) (by decide) (Tk (qQ f.d)) (iH f.d).symm (qR (K:=400) (by decide) h.2);have p1:=bEl l1 (by decide);have p2:=bEl l2 (by decide);unfold bDj bEb;split
 ·omega
 ·rw[List.length_append,List.length_cons];omega
theorem bQ8{l:List UInt8}{K:Nat}(h:l.length<=K)(hK:1<=K):(bFd l).length<=K:=by
 unfold bFd;split
 ·simpa using hK
 ·exact h
theorem bQ4{o:eJ}(h:o.other.length<=16)(h2:o.small):(bDy o).length<=2430:=by
 have h0:=bQ8 h (by decide);have h1:=bKb h2.2.1;have h3:=bKb h2.2.2.1;have h4:=bKb h2.2.2.2;unfold bDy;rw[bGq];simp only[Lib.lens,List.map_cons,List.map_nil,List.sum_cons,List.sum_nil,List.length_cons,List.length_nil];omega
theorem bQw{p:bJ}(h:sP p.lot=true)(hq:p.q.length<=400):(bDg p).length<=424:=by
 have h1:=bSo h;have h2:=bEl (z:=val p.q) (bWk (K:=400) (by decide) hq) (by decide);unfold bDg;rw[List.length_append,List.length_cons];omega
def bXt(i:Nat):Nat:=if i=10 then 27200 else if i=11 then 19500 else 1000
theorem bWn(c:UInt8):∀ls:List (List UInt8),(bDo c ls).length<=(ls.map fun l=>l.length+1).sum
 | []=>by simp[bDo,Lib.join,List.intercalate]
 | [x]=>by rw[bHq];simp
 |x::y::r=>by
  have h:=bWn c (y::r);rw[bJ7,List.length_append,List.length_cons,List.map_cons,List.sum_cons];omega
theorem bW1{α:Type}{f g:α->Nat}:∀ {l:List α},(∀x,x∈l->f x<=g x)->(l.map f).sum<=(l.map g).sum
 | [],_=>Nl _
 |x::r,h=>by
  rw[List.map_cons,List.sum_cons,List.map_cons,List.sum_cons];exact Nat.add_le_add (h x List.mem_cons_self) (bW1 fun y hy=>h y (List.mem_cons_of_mem _ hy))
theorem bRj{f:aE}{k:bH}(hs:f.small)(hch:f.choice<=9223372036854775807){i:Nat}(hi:i<13)(he:bT f k i=0):(bD8 f i).length<=bXt i:=by
 by_cases h1:i=4∨i=5∨i=6∨i=7∨i=8∨i=9
 ·have hl:(f.num i).small:=by
   rcases h1 with rfl|rfl|rfl|rfl|rfl|rfl
   ·exact⟨hs.q,Nat.zero_le _⟩
   ·exact⟨hs.amt,Nat.zero_le _⟩
   ·exact⟨hs.fee,Nat.zero_le _⟩
   ·exact hs.price
   ·exact hs.ratio
   ·exact hs.share
  have e:bD8 f i=bDj (f.num i):=by rcases h1 with rfl|rfl|rfl|rfl|rfl|rfl <;> rfl
  rw[e];have hw:bXt i=1000:=by rcases h1 with rfl|rfl|rfl|rfl|rfl|rfl <;> rfl
  have:=bKb hl;omega
 ·have:i=0∨i=1∨i=2∨i=3∨i=10∨i=11∨i=12:=by omega
  rcases this with rfl|rfl|rfl|rfl|rfl|rfl|rfl
  ·exact hs.ins
  ·exact hs.other
  ·exact hs.cur
  ·exact hs.target
  ·have he:jF f=0:=he;have hn:f.picks.length<=64:=by
    unfold jF at he
    by_cases h:64<f.picks.length
    ·rw[if_pos h] at he;cases he
    ·omega
   refine bQ8 (K:=27200) (l:=bDo 44 (f.picks.map bDg)) (Nat.le_trans (bK5 (K:=424) fun l hl=>?_) ?_) (by decide)
   ·obtain⟨p,hp,rfl⟩:=List.mem_map.1 hl;exact bQw (bIh he p hp).1 (hs.pick p hp).2
   ·rw[List.length_map];omega
  ·have he:iP f=0:=he;unfold iP at he
   by_cases h0:f.options.length=0
   ·rw[if_pos h0] at he;cases he
   rw[if_neg h0] at he
   by_cases h8:8<f.options.length
   ·rw[if_pos h8] at he;cases he
   rw[if_neg h8] at he;show _<=19500;refine Nat.le_trans (bK5 (ls:=f.options.map bDy) (K:=2430) fun l hl=>?_) ?_
   ·obtain⟨o,ho,rfl⟩:=List.mem_map.1 hl;refine bQ4 ?_ (hs.option o ho)
    by_cases hne:o.other=[]
    ·rw[hne];simp
    ·exact bQg (bRg (bPy he o ho) hne)
   ·rw[List.length_map];omega
  ·have he:(if f.choice<0 then(2:Int) else 0)=0:=he;have h0:0<=f.choice:=by
    by_cases h:f.choice<0
    ·rw[if_pos h] at he;cases he
    ·omega
   exact Nat.le_trans (bQ6 h0 hch) (by decide)
theorem bRi:∀q,q∈aX->q.2.word.length<=10/\(q.2.fields.map fun i=>bXt i+1).sum<=60000/\∀i,i∈q.2.fields->i<13/\q.2.has.getD i false=true:=by decide
theorem bTn{f:aE}(h:bY f=0)(hs:f.small)(hst:f.stamp<=9223372036854775807)(hch:f.choice<=9223372036854775807):(enc f).length<=65536:=by
 obtain⟨hk,h0⟩:=bP4 h;have hkl:=bQg hk;have hil:=bQ6 (by omega) hst;unfold enc;cases hc:f.cancelled with
 |true =>
  have e:bEa f=[f.key,Lib.itoa f.stamp,bFg]:=by unfold bEa;rw[if_pos hc]
  rw[e];refine Nat.le_trans (bK5 (K:=100) fun l hl=>?_) (by simp);simp only[List.mem_cons,List.not_mem_nil,or_false] at hl;rcases hl with rfl|rfl|rfl
  ·omega
  ·omega
  ·decide
 |false =>
  obtain⟨_,_,hd,q,hq,hqk,hf,hE⟩:=bRh h hc;obtain⟨w1,w2,w3⟩:=bRi q hq;have e:bEa f=[f.key,Lib.itoa f.stamp,bDl f.day,q.2.word]++q.2.fields.map (bD8 f):=by
   unfold bEa;rw[if_neg (by rw[hc];simp),hf]
  rw[e];refine Nat.le_trans (bWn 32 _) ?_;rw[List.map_append,List.sum_append,List.map_map];have hfs:(q.2.fields.map ((fun l:List UInt8=>l.length+1) ∘ bD8 f)).sum<=(q.2.fields.map fun i=>bXt i+1).sum:=by
   refine bW1 fun i hi=>?_
   obtain⟨hi13,hh⟩:=w3 i hi;have hb:=bDx hE i (by simpa using hi13);unfold bX at hb;rw[if_pos hh] at hb;have:=bRj hs hch hi13 hb;show (bD8 f i).length+1<=bXt i+1;omega
  have hpl:(bDl f.day).length=10:=by
   obtain⟨a,b,c,d,e',f',g,h',e1,_⟩:=bGg (z:=f.day) (by omega) (by omega);rw[e1];rfl
  simp only[List.map_cons,List.map_nil,List.sum_cons,List.sum_nil];omega
end
section
open Go Go.RowKit Num
theorem bFb{w:World}{b:Nat}{cs:Array Value}{T:TypeId}(h:aP w b cs T):∀(j:Nat) (v:Value),cs.toList[j]?=some v->w.cell? ⟨b,0+j,none⟩=some v:=fun j v hv=>(h.cell _).trans (by rw[Nat.zero_add,<-Array.getElem?_toList];exact hv)
theorem bR1{ops:Array Oper}{a:Act}{i j s:Nat}(hgd:(ops[i]?).map (·.guard)=some (some (j,true)))(hj:(ops[j]?).bind (·.dst)=some s)(hv:a.tmps[s]?=some (.bool true)):∀o,ops[i]?=some o->Region.wanted o (yielded ops a.tmps)=true:=fun o ho=>by
 rw[nL hgd rfl hj hv o ho];rfl
end
end Go.Proofs.YthjekgfoidmagaaGreatDoor
