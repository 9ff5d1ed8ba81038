/- Great13 BoxList13 -/
import Derived.Test.YthjekgfoidmagaaGreatDoorUReadX
set_option maxHeartbeats 16000000
set_option maxRecDepth 100000
namespace Go.Proofs.YthjekgfoidmagaaGreatDoor
open Go.Proofs.Tryz
section
open Go Go.RowKit Num
def bHh(P:Prop)(e:Ending):Prop:=∃g:Bool,e=.returned (.bool g)/\(g=false->P)
def bMt(P:Prop)(e:Ending):Prop:=∃i:Int,e=.returned (.int .i64 i)/\(decide (0<=i)=false->P)
theorem bH5(xs:List aF)(a:Option Addr)(c:Nat)(w:World)(hn:xs.length<=1000000)(hr:fS w a xs)(hf:∀x,x∈xs->x.fits):
  Calls prog 82 #[.slice a xs.length c,.func (.func 32) #[] #[]] w fun e w'=>bMt (∀x,x∈xs->x.f.tight) e/\Below w.heap.size w w':=by
 have HR:=Hd hr;have HF:=Hd hf;clear hr hf;go_enter func82,ntmps82;go_wp2_with fail;go_loopw [8] (fun iv wr=>∃k:Nat,k<=xs.length/\iv=.int .i64 k/\Hid (∀j x,j<k->xs[j]?=some x->x.f.tight)/\Hid (Below w.heap.size w wr)) (fun iv _=>xs.length-(intOf iv).toNat)
 case atStart=>exact⟨0,Nat.zero_le _,rfl,fun j x h=>absurd h (Nat.not_lt_zero j),Br _ _⟩
 case round =>
  obtain⟨k,hk,rfl,HS,HB⟩:=hrel
  by_cases hlt:k<xs.length
  ·obtain⟨x,hx⟩:∃x,xs[k]?=some x:=⟨xs[k],Lg hlt⟩
   obtain⟨b,off,rfl,hbl,hc⟩:=HR.out.1.addr (k:=k) (cs:=x.cells) (by rw[List.getElem?_map,hx];rfl);have hxm:=List.mem_of_getElem? hx;have hfx:=HF.out x hxm;have HC:Hid (∀j v,x.arr.toList[j]?=some v->wr.cell? ⟨b,off+k*21+j,none⟩=some v):=fun j v hv=>(HB.out.cell (p:=⟨b,off+k*21+j,none⟩) hbl).trans (hc j v hv)
   have HSZ:Hid ((prog.info? 29).map (·.size)=some x.arr.size):=aY x.f x.pa x.oa x.pc x.oc;have HG:Hid (Calls prog 32 #[.agg x.arr] wr fun e w'=>(∃g,e=.returned (.bool g)/\(g=false->x.f.tight))/\Below wr.heap.size wr w'):=qH x.f x.pa x.oa x.pc x.oc wr ((HR.out.2 x hxm).below HB.out) (by have:=hfx.npicks;unfold maxLen at this;omega) (by have:=hfx.noptions;unfold maxLen at this;omega);have HK:Hid (x.f.tight->∀j y,j<k+1->xs[j]?=some y->y.f.tight):=fun h j y hj hy=>by
    by_cases e:j=k
    ·subst e;rw[hx] at hy;injection hy with hy;subst hy;exact h
    ·exact HS.out j y (by omega) hy
   clear HS hc hx hxm hfx;generalize x.arr=fc at *;go_wp2_with (refine aM rfl 29 _ rfl b (off+k*21) rfl fc _ HC.out underlying29 rfl HSZ.out ?_);refine HG.out.mono ?_;rintro e w1 ⟨⟨g,rfl,hg⟩,hb⟩;have HB1:=Hd (aA HB.out hb);cases g with
   |true =>
    go_wp2;go_ret;exact⟨⟨_,rfl,fun h=>by simp at h⟩,HB1.out⟩
   |false =>
    have HK2:=Hd (HK.out (hg rfl));clear hg HK;go_wp2;go_roundw
    case rel=>exact⟨k+1,by omega,by go_num,HK2,HB1⟩
    case measure=>simp[intOf];omega
  ·obtain rfl:k=xs.length:=by omega
   have HA:Hid (∀x,x∈xs->x.f.tight):=fun x hx=>by
    obtain⟨j,hj⟩:=List.getElem?_of_mem hx;exact HS.out j x (Li.1 hj).1 hj
   clear HS;go_wp2;go_ret;exact⟨⟨_,rfl,fun _=>HA.out⟩,HB.out⟩
theorem bGy(xs:List aF)(a:Option Addr)(c:Nat)(w:World)(hn:xs.length<=1000000)(hr:fS w a xs)(hf:∀x,x∈xs->x.fits):
  Calls prog 31 #[.slice a xs.length c,.func (.func 32) #[] #[]] w fun e w'=>bHh (∀x,x∈xs->x.f.tight) e/\Below w.heap.size w w':=by
 have HI:=Hd (bH5 xs a c w hn hr hf);clear hr hf hn;generalize(∀x,x∈xs->x.f.tight)=P at *;generalize xs.length=n at *;go_enter func31,ntmps31;go_wp2_with fail;refine HI.out.mono ?_;rintro e w1 ⟨⟨i,rfl,hi⟩,hb⟩;go_wp2;go_ret;exact⟨⟨_,rfl,hi⟩,hb⟩
theorem bKl(xs:List aF)(a:Option Addr)(c:Nat)(w:World)(hn:xs.length<=1000000)(hr:fS w a xs)(hf:∀x,x∈xs->x.fits):
  Calls prog 10 #[.slice a xs.length c] w fun e w'=>bHh (∀x,x∈xs->x.f.tight) e/\Below w.heap.size w w':=by
 have HI:=Hd (bGy xs a c w hn hr hf);clear hr hf hn;generalize(∀x,x∈xs->x.f.tight)=P at *;generalize xs.length=n at *;go_enter func10,ntmps10;go_wp2_with fail;refine HI.out.mono ?_;rintro e w1 ⟨⟨g,rfl,hg⟩,hb⟩;go_wp2;go_ret;exact⟨⟨_,rfl,hg⟩,hb⟩
theorem bLd{w:World}(xs:List aF)(cs:Array Value)(hcs:cs.toList=(xs.map aF.cells).flatten)(hb:∀x,x∈xs->x.f.Behind w x.pa x.oa):fS (w.alloc (.cells cs 29)) (some ⟨w.heap.size,0,none⟩) xs:=by
 have hrow:dT (w.alloc (.cells cs 29)) (some ⟨w.heap.size,0,none⟩) cs.toList:=by
  have h:=aP.new0 w cs 29;refine .inr ⟨w.heap.size,0,rfl,h.1,fun k u hk=>?_⟩;rw[Nat.zero_add];refine(h.cell k).trans ?_;rw[<-Array.getElem?_toList];exact hk
 rw[hcs] at hrow;exact⟨bJn (N:=21) (by decide) (fun c hc=>by obtain⟨x,_,rfl⟩:=List.mem_map.1 hc;rfl) hrow,fun x hx=>(hb x hx).below (aB _ _)⟩
theorem bTs(x y:aF)(w:World):(Instr.buildSlice 47 2 #[(0,.agg x.arr),(1,.agg y.arr)]).run prog w=.ok (.slice (some ⟨w.heap.size,0,none⟩) 2 2) (w.alloc (.cells (x.arr++y.arr) 29)):=by
 unfold aF.arr aE.cells;simp[go_sem]
theorem bTk(x y:aF)(w:World)(hx:x.f.Behind w x.pa x.oa)(hy:y.f.Behind w y.pa y.oa)(fx:x.fits)(fy:y.fits):Calls prog 10 #[.slice (some ⟨w.heap.size,0,none⟩) 2 2] (w.alloc (.cells (x.arr++y.arr) 29)) fun e w'=>bHh (x.f.tight/\y.f.tight) e/\Below w.heap.size w w':=by
 refine(bKl [x,y] _ 2 _ (by simp) (bLd [x,y] (x.arr++y.arr) (by simp[aF.cells]) (by intro z hz;rcases List.mem_cons.1 hz with rfl|hz;exact hx;obtain rfl:=List.mem_singleton.1 hz;exact hy)) (by intro z hz;rcases List.mem_cons.1 hz with rfl|hz;exact fx;obtain rfl:=List.mem_singleton.1 hz;exact fy)).mono ?_;rintro e w' ⟨⟨g,rfl,hg⟩,hb⟩;exact⟨⟨g,rfl,fun h=>⟨hg h x (by simp),hg h y (by simp)⟩⟩,(aB _ _).trans (hb.mono (by rw[World.size_alloc];omega))⟩
end
section
open Go Go.RowKit Num
theorem bFb{w:World}{b:Nat}{cs:Array Value}{T:TypeId}(h:aP w b cs T):∀(j:Nat) (v:Value),cs.toList[j]?=some v->w.cell? ⟨b,0+j,none⟩=some v:=fun j v hv=>(h.cell _).trans (by rw[Nat.zero_add,<-Array.getElem?_toList];exact hv)
theorem bR1{ops:Array Oper}{a:Act}{i j s:Nat}(hgd:(ops[i]?).map (·.guard)=some (some (j,true)))(hj:(ops[j]?).bind (·.dst)=some s)(hv:a.tmps[s]?=some (.bool true)):∀o,ops[i]?=some o->Region.wanted o (yielded ops a.tmps)=true:=fun o ho=>by
 rw[nL hgd rfl hj hv o ho];rfl
end
end Go.Proofs.YthjekgfoidmagaaGreatDoor
