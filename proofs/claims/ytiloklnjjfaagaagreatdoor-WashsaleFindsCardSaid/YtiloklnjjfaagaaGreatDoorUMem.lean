/- Mem -/
import Derived.Test.YtiloklnjjfaagaaGreatDoorProg
import Derived.WalkLawsBesides
import Derived.Lib.Hide
import Derived.Conc.MuLone
import Derived.Shelf.Abstract
set_option maxHeartbeats 16000000
set_option maxRecDepth 100000
namespace Go.Proofs.YtiloklnjjfaagaaGreatDoor
theorem Hd{p:Prop}(h:p):Go.RowKit.Hid p:=h
theorem Nl(n:Nat):n<=n:=Nat.le_refl n
theorem Br(B:Nat)(w:Go.World):Go.RowKit.Below B w w:=Go.RowKit.Below.refl B w
theorem Ai{α:Type _}{xs:Array α}{i:Nat}{b:α}:xs[i]?=some b↔∃h:i<xs.size,xs[i]=b:=Array.getElem?_eq_some_iff
theorem Li{α:Type _}{xs:List α}{i:Nat}{b:α}:xs[i]?=some b↔∃h:i<xs.length,xs[i]=b:=List.getElem?_eq_some_iff
theorem Lg{α:Type _}{xs:List α}{i:Nat}(h:i<xs.length):xs[i]?=some xs[i]:=List.getElem?_eq_getElem h
open Go.RowKit
theorem dG{a b:Bool}(h:a=b):Ending.returned (.bool a)=.returned (.bool b):=by rw[h]
theorem gG{k:IntKind}{a b:Int}(h:a=b):Ending.returned (.int k a)=.returned (.int k b):=by rw[h]
theorem dW{a b:Value}(h:a=b):Ending.returned a=.returned b:=by rw[h]
theorem aNm{fn:Func}{t u v x:Tmp}(h:fn.results=#[.tmp t,.tmp u,.tmp v,.tmp x])(tmps:Array Value)(P:Program)(w:World):
  (results fn tmps).run P w=.ok (.tuple #[tmps.getD t undef,tmps.getD u undef,tmps.getD v undef,tmps.getD x undef]) w:=by simp[results,h]
theorem aD{B:Nat}{a w:World}(h:Below B a w)(n:Nat):Below B a (w.drewN n):=⟨h.os,h.tape,h.output,h.size,h.block⟩
theorem aA{a b c:World}(h:Below a.heap.size a b)(k:Below b.heap.size b c):Below a.heap.size a c:=h.trans (k.mono h.size)
theorem aV(l:List UInt8):(⟨l.toArray⟩:ByteArray).size=l.length:=by simp[ByteArray.size]
theorem aO5(s:ByteArray):s=⟨s.data.toList.toArray⟩:=by cases s;simp
theorem eW(a b:List UInt8):(⟨a.toArray⟩:ByteArray)++⟨b.toArray⟩=⟨(a++b).toArray⟩:=by
 apply ByteArray.ext;simp
theorem eN(l:List UInt8)(a b:Nat):(⟨l.toArray⟩:ByteArray).extract a b=⟨((l.drop a).take (b-a)).toArray⟩:=by
 apply ByteArray.ext;rw[ByteArray.data_extract];simp
theorem aPj{W w1:World}(hb:Below W.heap.size W w1):(∀b o,b<W.heap.size->w1.cell? ⟨b,o,none⟩=W.cell? ⟨b,o,none⟩)/\(∀b o,b<W.heap.size->w1.frozen? ⟨b,o,none⟩=W.frozen? ⟨b,o,none⟩) :=
 ⟨fun b o h=>hb.cell (p:=⟨b,o,none⟩) h,fun b o h=>hb.frozen (p:=⟨b,o,none⟩) h⟩
theorem sT{w w1:World}{c1:Array Value}{t1:TypeId}{n:Nat}(hb:Below ((w.alloc (.cells c1 t1)).drewN n).heap.size ((w.alloc (.cells c1 t1)).drewN n) w1):
  w1.heap[w.heap.size]?=some (.cells c1 t1 (0,0)):=by
 refine(hb.block _ (by show w.heap.size<(w.alloc _).heap.size;simp)).trans ?_;exact heap_alloc_new w _
theorem vM{w w1:World}{c1 c2:Array Value}{t1 t2:TypeId}{n:Nat}(hb:Below (((w.alloc (.cells c1 t1)).alloc (.cells c2 t2)).drewN n).heap.size (((w.alloc (.cells c1 t1)).alloc (.cells c2 t2)).drewN n) w1):
  w1.heap[w.heap.size]?=some (.cells c1 t1 (0,0))/\w1.heap[w.heap.size+1]?=some (.cells c2 t2 (0,0)):=by
 have h2:=sT hb;simp only[World.size_alloc] at h2;refine⟨(hb.block _ (by show w.heap.size<((w.alloc _).alloc _).heap.size;simp;omega)).trans ?_,h2⟩;show ((w.alloc _).alloc _).heap[w.heap.size]?=_;rw[Below.heap_alloc _ _ _ (by simp)];exact heap_alloc_new w _
theorem Aw{w w1:World}{c1 c2 c3:Array Value}{t1 t2 t3:TypeId}{n:Nat}(hb:Below ((((w.alloc (.cells c1 t1)).alloc (.cells c2 t2)).alloc (.cells c3 t3)).drewN n).heap.size ((((w.alloc (.cells c1 t1)).alloc (.cells c2 t2)).alloc (.cells c3 t3)).drewN n) w1):
  w1.heap[w.heap.size]?=some (.cells c1 t1 (0,0))/\w1.heap[w.heap.size+1]?=some (.cells c2 t2 (0,0))/\w1.heap[w.heap.size+1+1]?=some (.cells c3 t3 (0,0)):=by
 obtain⟨h2,h3⟩:=vM hb;simp only[World.size_alloc] at h2 h3;refine⟨(hb.block _ (by show w.heap.size<(((w.alloc _).alloc _).alloc _).heap.size;simp;omega)).trans ?_,h2,h3⟩;show (((w.alloc _).alloc _).alloc _).heap[w.heap.size]?=_;rw[Below.heap_alloc _ _ _ (by simp;omega),Below.heap_alloc _ _ _ (by simp)];exact heap_alloc_new w _
theorem dM{w:World}{B i j b o:Nat}(u v:Value)(h:b≠B):((w.setCell ⟨B,i,none⟩ u).setCell ⟨B,j,none⟩ v).cell? ⟨b,o,none⟩=w.cell? ⟨b,o,none⟩:=by
 rw[World.cell?_setCell_other _ _ _ _ (fun e=>h (by injection e with e1;exact e1.symm)),World.cell?_setCell_other _ _ _ _ (fun e=>h (by injection e with e1;exact e1.symm))]
theorem aS{w:World}{b:Nat}{cs:Array Value}{T:TypeId}{fr:Nat×Nat}(hb:w.heap[b]?=some (.cells cs T fr))(j:Nat):w.cell? ⟨b,j,none⟩=cs[j]? := by simp[World.cell?,hb]
theorem aR{w:World}{b:Nat}{cs:Array Value}{T:TypeId}(hb:w.heap[b]?=some (.cells cs T (0,0)))(j:Nat):w.frozen? ⟨b,j,none⟩=false:=by simp[World.frozen?,hb]
def eO(B:Nat)(a:Option Addr):Prop:=∀b off,a=some ⟨b,off,none⟩->B<=b
theorem eO.of{B b off:Nat}(h:B<=b):eO B (some ⟨b,off,none⟩):=fun b' off' e=>by injection e with e;injection e with e1;omega
theorem eO.none(B:Nat):eO B none:=fun _ _ e=>by cases e
theorem eO.mono{B B':Nat}{a:Option Addr}(h:eO B a)(hB:B'<=B):eO B' a:=fun b off e=>Nat.le_trans hB (h b off e)
theorem gF(l:List UInt8)(k:Nat)(h:k<(⟨l.toArray⟩:ByteArray).size):(⟨l.toArray⟩:ByteArray)[k]'h=l.getD k 0:=by
 have hk:k<l.length:=by rw[aV] at h;exact h
 rw[List.getD_eq_getElem?_getD,Lg hk];rfl
def dT(w:World)(a:Option Addr)(xs:List Value):Prop :=
 xs=[]∨∃b off,a=some ⟨b,off,none⟩/\b<w.heap.size/\∀k u,xs[k]?=some u->w.cell? ⟨b,off+k,none⟩=some u
theorem dT.nil(w:World)(a:Option Addr):dT w a []:=.inl rfl
theorem dT.below{w w':World}{a:Option Addr}{xs:List Value}(h:dT w a xs)(hb:Below w.heap.size w w'):dT w' a xs:=by
 rcases h with h|⟨b,off,ha,hlt,hc⟩
 ·exact .inl h
 ·exact .inr ⟨b,off,ha,Nat.lt_of_lt_of_le hlt hb.size,fun k u hu=>(hb.cell (p:=⟨b,off+k,none⟩) hlt).trans (hc k u hu)⟩
theorem dT.addr{w:World}{a:Option Addr}{xs:List Value}(h:dT w a xs)(hne:xs ≠ []):
  ∃b off,a=some ⟨b,off,none⟩/\b<w.heap.size/\∀k u,xs[k]?=some u->w.cell? ⟨b,off+k,none⟩=some u:=by
 rcases h with h|h
 ·exact absurd h hne
 ·exact h
theorem dT.take{w:World}{a:Option Addr}{xs ys:List Value}(h:dT w a (xs++ys)):dT w a xs:=by
 by_cases hx:xs=[]
 ·exact .inl hx
 ·obtain⟨b,off,ha,hlt,hc⟩:=h.addr (by simp[hx]);refine .inr ⟨b,off,ha,hlt,fun k u hu=>hc k u ?_⟩;have hk:k<xs.length:=by
   rcases Nat.lt_or_ge k xs.length with h|h
   ·exact h
   ·rw[List.getElem?_eq_none h] at hu;cases hu
  rw[List.getElem?_append_left hk];exact hu
theorem dT.setCell{w:World}{a:Option Addr}{xs:List Value}(h:dT w a xs){p:Addr}(hne:∀b off,a=some ⟨b,off,none⟩->b≠p.block)(v:Value):dT (w.setCell p v) a xs:=by
 rcases h with h|⟨b,off,ha,hlt,hc⟩
 ·exact .inl h
 ·refine .inr ⟨b,off,ha,by simpa[World.setCell] using hlt,fun k u hu=>?_⟩;rw[<-hc k u hu];exact World.cell?_of_block (Below.heap_setCell w p v b (hne b off ha))
theorem gK{w:World}{base e n:Nat}{v:Value}{xs:List Value}{size:Nat}(h:w.ownsRow base e size v n xs):∃a cap,v=.slice a n cap/\dT w a xs:=by
 rcases h.2 with⟨rfl,rfl⟩|⟨g,cap,cur,rfl,_,hg,_,_,_,htake⟩
 ·exact⟨none,0,rfl,.inl (List.eq_nil_of_length_eq_zero (by rw[h.1];omega))⟩
 ·refine⟨some ⟨g,0,none⟩,cap,rfl,.inr ⟨g,0,rfl,(Ai.1 hg).1,fun k u hu=>?_⟩⟩;rw[Nat.zero_add];have:=h.cells (g:=g) rfl k u hu;have e:(⟨g,0,none⟩:Addr).add k=⟨g,k,none⟩:=by
   by_cases hk:k=0 <;> simp[Addr.add,hk]
  rwa [e] at this
theorem aXb {P : Program} {f : FuncId} {fn : Func} {c : Code} (hf : P.funcs[f]? = some fn) (hb : fn.body = some c := by rfl) (hname : (fn.name == "runtime.NumGoroutine") = false := by kernel_rfl) : Enters P f := enters_of hf hname hb
end Go.Proofs.YtiloklnjjfaagaaGreatDoor
