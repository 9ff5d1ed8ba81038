/- Maps Maps2 -/
import Derived.Test.YthjekgfoidmagaaGreatDoorUAdd
import Derived.RangeFuncKeeps
import Derived.Maps.RangeWalk
set_option maxHeartbeats 16000000
set_option maxRecDepth 100000
namespace Go.Proofs.YthjekgfoidmagaaGreatDoor
open Tryz
section
open Go Go.RowKit
def eL(w:World)(b:Nat)(kvs:List (Int×Value)):Prop :=
 ∃es clock,w.heap[b]?=some (.map es clock)/\es.toList.map (fun e=>(e.key,e.val))=kvs.map (fun p=>(Value.int .i64 p.1,p.2))
theorem eL.lt{w:World}{b:Nat}{kvs:List (Int×Value)}(h:eL w b kvs):b<w.heap.size:=by
 obtain⟨es,clock,hb,_⟩:=h;exact(Ai.1 hb).1
theorem eL.below{w w':World}{b:Nat}{kvs:List (Int×Value)}(h:eL w b kvs)(hb:Below w.heap.size w w'):eL w' b kvs:=by
 have hl:=h.lt;obtain⟨es,clock,hh,he⟩:=h;exact⟨es,clock,(hb.block b hl).trans hh,he⟩
theorem eL.new(w:World):eL (w.alloc (.map #[] 0)) w.heap.size []:=⟨#[],0,heap_alloc_new w _,rfl⟩
theorem tQ{es:Array MapEntry}{kvs:List (Int×Value)}(h:es.toList.map (fun e=>(e.key,e.val))=kvs.map (fun p=>(Value.int .i64 p.1,p.2))){x:MapEntry}(hx:x∈es.toList):∃p∈kvs,x.key=.int .i64 p.1/\x.val=p.2:=by
 have:(x.key,x.val)∈es.toList.map (fun e=>(e.key,e.val)):=List.mem_map.2 ⟨x,hx,rfl⟩;rw[h] at this;obtain⟨p,hp,e⟩:=List.mem_map.1 this;injection e with e1 e2
 exact⟨p,hp,e1.symm,e2.symm⟩
theorem jW{q:IntKind}{n:Int}:MapKept.IsKey (.int q) (.int q n):=by simp[MapKept.IsKey]
theorem qC{P:Program}{w:World}{b:Nat}{kvs:List (Int×Value)}{t kt et:TypeId}(hm:P.underlying t=some (.map kt et))(hk:P.underlying kt=some (.int .i64))(h:eL w b kvs)(k:Int)(v:Value)(hne:∀p∈kvs,p.1≠k):
  ∃w',(Instr.mapUpdate t (.map (some b)) (.int .i64 k) v).run P w=.ok () w'/\eL w' b (kvs ++ [(k,v)])/\w.grownBy w' (some b)/\w'.heap.size=w.heap.size:=by
 obtain⟨es,clock,hb,he⟩:=h;have hks:∀x∈es.toList,MapKept.IsKey (.int .i64) x.key:=fun x hx=>by
  obtain⟨p,_,e,_⟩:=tQ he hx;rw[e];exact jW
 have hf:Instr.findNow (.int .i64) (.int .i64 k) es.toList 0=some none:=by
  rcases MapKept.findNow_spec (k:=.int .i64 k) jW es.toList 0 hks with⟨h1,_⟩|⟨j,e,_,h2,h3⟩
  ·exact h1
  ·exfalso;obtain⟨p,hp,e1,_⟩:=tQ he (List.mem_of_getElem? h2);rw[e1] at h3;injection h3 with _ h4
   exact hne p hp h4
 have hc:(Instr.checkKey false 10000 kt (.int .i64 k)).run P w=.ok () w:=MapKept.run_checkKey hk jW false 9999;refine⟨w.putObj b (.map (es.push { key:=.int .i64 k,val:=v,born:=clock }) (clock+1)),?_,⟨_,_,World.putObj_heap_same (Ai.1 hb).1,?_⟩,grownBy_putObj' w b _,by simp[World.putObj]⟩
 ·simp[Instr.mapUpdate,run_underlying hm,MapKept.run_getObj_map hb,hc,MapKept.run_findKey hk hf,MapKept.run_setObj_map _ hb,Result.andThen];rfl
 ·simp[he]
theorem xT{P:Program}{w:World}{b:Nat}{kvs:List (Int×Value)}{t kt et:TypeId}{z:Value}(hm:P.underlying t=some (.map kt et))(hk:P.underlying kt=some (.int .i64))(hz:(zeroValue et).run P w=.ok z w)(h:eL w b kvs)(k:Int)(hne:∀p∈kvs,p.1≠k)(ok:Bool):
  (Instr.lookup t (.map (some b)) (.int .i64 k) ok).run P w=.ok (if ok then .tuple #[z,.bool false] else z) w:=by
 obtain⟨es,clock,hb,he⟩:=h;have hks:∀x∈es.toList,MapKept.IsKey (.int .i64) x.key:=fun x hx=>by
  obtain⟨p,_,e,_⟩:=tQ he hx;rw[e];exact jW
 have hf:Instr.findNow (.int .i64) (.int .i64 k) es.toList 0=some none:=by
  rcases MapKept.findNow_spec (k:=.int .i64 k) jW es.toList 0 hks with⟨h1,_⟩|⟨j,e,_,h2,h3⟩
  ·exact h1
  ·exfalso;obtain⟨p,hp,e1,_⟩:=tQ he (List.mem_of_getElem? h2);rw[e1] at h3;injection h3 with _ h4
   exact hne p hp h4
 have hc:(Instr.checkKey es.isEmpty 10000 kt (.int .i64 k)).run P w=.ok () w:=MapKept.run_checkKey hk jW _ 9999;simp[Instr.lookup,run_underlying hm,MapKept.run_getObj_map hb,hc,MapKept.run_findKey hk hf,hz,Result.andThen]
theorem eL.kept{w w':World}{b b':Nat}{kvs:List (Int×Value)}(h:eL w b kvs)(hg:w.grownBy w' (some b'))(hne:b≠b'):eL w' b kvs:=by
 have hl:=h.lt;obtain⟨es,clock,hh,he⟩:=h;exact⟨es,clock,(hg.block b hl (by intro e;injection e with e;exact hne e)).trans hh,he⟩
theorem aP.kept{w w':World}{b b':Nat}{cs:Array Value}{T:TypeId}(h:aP w b cs T)(hg:w.grownBy w' (some b'))(hne:b≠b'):aP w' b cs T :=
 ⟨Nat.lt_of_lt_of_le h.1 hg.size,(hg.block b h.1 (by intro e;injection e with e;exact hne e)).trans h.2⟩
end
section
open Go Go.RowKit Go.Maps Go.MapKept Go.WideElems
def Ca:Value->Option (DataW Unit×List MemPlace):=fun _=>some (.lit (.bool true),[])
theorem zR:Keyed prog 3:=int_keyed underlying3
def mD(w:World)(b:Nat)(kvs:List (Int×Value)):Prop:=eL w b kvs/\∃n D,n<=1000/\n<=kvs.length/\w.ownsMap prog 3 Ca b n D
theorem mD.new(w:World):mD (w.alloc (.map #[] 0)) w.heap.size []:=⟨eL.new w,0,_,by decide,Nl _,World.ownsMap_made _ _ _ _⟩
theorem Kn{w w':World}{b n:Nat}{D:DataW Unit}(h:w.ownsMap prog 3 Ca b n D)(hb:Below w.heap.size w w'):w'.ownsMap prog 3 Ca b n D:=by
 have hl:=World.ownsMap.lt h;obtain⟨es,clock,hh,F,hs,hD⟩:=h;exact⟨es,clock,(hb.block b hl).trans hh,F,hs,hD⟩
theorem mD.below{w w':World}{b:Nat}{kvs:List (Int×Value)}(h:mD w b kvs)(hb:Below w.heap.size w w'):mD w' b kvs:=by
 obtain⟨h1,n,D,h2,h3,h4⟩:=h;exact⟨h1.below hb,n,D,h2,h3,Kn h4 hb⟩
theorem mD.kept{w w':World}{b b':Nat}{kvs:List (Int×Value)}(h:mD w b kvs)(hg:w.grownBy w' (some b'))(hne:b≠b'):mD w' b kvs:=by
 obtain⟨h1,n,D,h2,h3,h4⟩:=h;exact⟨h1.kept hg hne,n,D,h2,h3,h4.kept hg (by intro e;injection e with e;exact hne e)⟩
theorem mD.lt{w:World}{b:Nat}{kvs:List (Int×Value)}(h:mD w b kvs):b<w.heap.size:=h.1.lt
theorem Yt{w:World}{b n:Nat}{kvs:List (Int×Value)}{D:DataW Unit}(h:eL w b kvs)(ho:w.ownsMap prog 3 Ca b n D)(k:Int):Maps.has D (.int .i64 k)=true↔∃v,(k,v)∈kvs:=by
 obtain⟨es,clock,hb,he⟩:=h;obtain⟨es',clock',hb',F,_,rfl⟩:=ho;rw[hb] at hb';injection hb' with hb'
 injection hb' with e1 e2
 subst e1 e2;rw[Maps.has_eq,List.any_eq_true];have hrg:∀x∈es.toList,∃q:Int×Value,q∈kvs/\x.key=.int .i64 q.1/\x.val=q.2/\(rg prog 3 Ca x).1=.int .i64 q.1:=by
  intro x hx;obtain⟨q,hq,e1,e2⟩:=tQ he hx;obtain⟨y,hy⟩:=F.reads x hx;have hk:=rd_key hy;rw[e1] at hk;obtain⟨a,ea,el,_⟩:=Maps.keyOf_int_inv underlying3 hk;injection ea with _ ea
  refine⟨q,hq,e1,e2,?_⟩;unfold rg;rw[hy];show y.1=_;rw[el,<-ea]
 constructor
 ·rintro⟨p,hp,hs⟩;rw[mem_sorted] at hp;obtain⟨x,hx,rfl⟩:=List.mem_map.1 hp;obtain⟨q,hq,_,_,e3⟩:=hrg x hx;rw[e3] at hs;have:q.1=k:=by simpa[Lit.sameKey] using hs
  exact⟨q.2,by rw[<-this];exact hq⟩
 ·rintro⟨v,hv⟩;have hmem:(Value.int .i64 k,v)∈es.toList.map (fun e=>(e.key,e.val)):=by rw[he];exact List.mem_map.2 ⟨(k,v),hv,rfl⟩
  obtain⟨x,hx,ex⟩:=List.mem_map.1 hmem;injection ex with ek ev
  obtain⟨q,hq,e1,_,e3⟩:=hrg x hx;refine⟨rg prog 3 Ca x,mem_sorted.2 (List.mem_map.2 ⟨x,hx,rfl⟩),?_⟩;rw[e3];rw[ek] at e1;rw[(Value.int.inj e1).2];exact WideAt.sameKey_self trivial
theorem Sf{k:Int}(h1:0<=k)(h2:k<=1000):(Lit.int .i64 k).wf=true:=WalkArith.wf_i64 (by omega)
theorem mD.insert{w:World}{b:Nat}{kvs:List (Int×Value)}{t et:TypeId}(hm:prog.underlying t=some (.map 3 et))(h:mD w b kvs)(hl:kvs.length<1000)(k:Int)(hk:0<=k/\k<=1000)(v:Value)(hne:∀p∈kvs,p.1≠k):
  ∃w',(Instr.mapUpdate t (.map (some b)) (.int .i64 k) v).run prog w=.ok () w'/\mD w' b (kvs ++ [(k,v)])/\w.grownBy w' (some b)/\w'.heap.size=w.heap.size:=by
 obtain⟨h1,n,D,h2,h3,h4⟩:=h;obtain⟨w',hrun,r1,r2,r3⟩:=qC hm underlying3 h1 k v hne;obtain⟨w'',hrun',r4,_⟩:=h4.update zR hm (by unfold maxLen;omega) (Maps.keyOf_int_mk underlying3 (Sf hk.1 hk.2)) (val:=v) rfl;rw[hrun] at hrun';injection hrun' with _ hw
 subst hw;exact⟨w',hrun,⟨r1,n+1,_,by omega,by simp;omega,r4⟩,r2,r3⟩
theorem lB{P:Program}(hP:P=prog)(w:World){ops:Array Oper}{rest:List Oper}{o:Oper}{a:Act}{Q:Exit->Act->World->Prop}
  (hg:o.guard=none) (m x v:Operand) (t et:TypeId) (hop:o.op=Op.insert t m x v) (hm:prog.underlying t=some (.map 3 et)) (b:Nat) (kvs:List (Int×Value)) (hmv:a.eval m=.map (some b)) (h:mD w b kvs) (hl:kvs.length<1000)
  (k:Int) (hx:a.eval x=.int .i64 k) (hk:0<=k/\k<=1000) (hne:∀p∈kvs,p.1≠k)
  (hK:∀w',mD w' b (kvs ++ [(k,a.eval v)])->w.grownBy w' (some b)->w'.heap.size=w.heap.size->wpList P ops Q rest (a.put o.dst undef) w'):wpList P ops Q (o::rest) a w:=by
 subst hP;refine wpList_plain hg fun K' hK'=>?_
 obtain⟨w',hrun,r1,r2,r3⟩:=h.insert hm hl k hk (a.eval v) hne;unfold Oper.wp;simp[execOp,hop,hmv,hx,hrun,Result.andThen];exact hK' _ _ (hK w' r1 r2 r3)
end
end Go.Proofs.YthjekgfoidmagaaGreatDoor
