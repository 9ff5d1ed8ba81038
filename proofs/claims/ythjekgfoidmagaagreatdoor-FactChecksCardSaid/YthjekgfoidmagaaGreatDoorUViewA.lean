/- Rem HistP Sorted KeysP Sorted2 Strs ViewP ElectP -/
import Derived.Test.YthjekgfoidmagaaGreatDoorULog
set_option maxHeartbeats 16000000
set_option maxRecDepth 100000
namespace Go.Proofs.YthjekgfoidmagaaGreatDoor
open Go.Proofs.Tryz
section
open Go.RowKit Num
theorem Jo{P:Program}(w:World){ops:Array Oper}{rest:List Oper}{o:Oper}{a:Act}{Q:Exit->Act->World->Prop}(hg:o.guard=none)(dst:Option Tmp)(hdst:o.dst=dst)(s x:Operand)(t u:TypeId)(ho:o.op=.binOp .add t s x u)(bs:ByteArray)(l m:List UInt8)
  (hs:a.eval s=.string bs) (hb:bs=⟨l.toArray⟩) (hx:a.eval x=.string ⟨m.toArray⟩) (hl:l.length+m.length<=1000000) (h:wpList P ops Q rest (a.put dst (.string ⟨(l++m).toArray⟩)) w):wpList P ops Q (o::rest) a w:=by
 subst hdst;subst hb;refine wpList_plain hg fun K hK=>?_
 have hrun:(Go.Op.stringOp .add ⟨l.toArray⟩ ⟨m.toArray⟩).run P w=.ok (.string ⟨(l++m).toArray⟩) w:=by
  have hsz:¬ (((⟨l.toArray⟩:ByteArray).size+(⟨m.toArray⟩:ByteArray).size:Nat):Int)>IntKind.i64.max:=by
   have e1:(⟨l.toArray⟩:ByteArray).size=l.length:=rfl;have e2:(⟨m.toArray⟩:ByteArray).size=m.length:=rfl;have e3:IntKind.i64.max=9223372036854775807:=rfl;rw[e1,e2,e3];omega
  have hap:(⟨l.toArray⟩:ByteArray)++⟨m.toArray⟩=⟨(l++m).toArray⟩:=by
   apply ByteArray.ext;simp
  unfold Go.Op.stringOp;simp only;rw[if_neg hsz,hap];rfl
 unfold Oper.wp;simp[execOp,ho,hs,hx,Result.andThen,binOp,eqGuard,hrun];exact hK _ _ h
end
section
open Go Go.RowKit Num
def bBf(p n:Nat):Int:=if p<n then(p:Int) else -1
end
section
open Go.RowKit Num
section
variable {ss:List (List UInt8)}
theorem bCc{d:Array (List UInt8)}(hs:d.toList.Pairwise (·<=·)){i j:Nat}(hij:i<j)(hj:j<d.size):d[i]!<=d[j]! := by
 have:=List.pairwise_iff_getElem.1 hs i j (by simpa using Nat.lt_trans hij hj) (by simpa using hj) hij;rw[getElem!_pos d i (by omega),getElem!_pos d j hj];simpa using this
theorem bB1(d:Array (List UInt8))(hs:d.toList.Pairwise (·<=·))(m:Nat)(hm:m<=d.size):
  (∀x,x∈Go.Lib.compactUpTo d m↔∃j,j<m/\d[j]! = x)/\(Go.Lib.compactUpTo d m).Pairwise (· < ·):=by
 induction m with
 |zero=>exact⟨fun x=>by simp[Go.Lib.compactUpTo],by simp[Go.Lib.compactUpTo]⟩
 |succ m ih =>
  obtain⟨i1,i2⟩:=ih (by omega);rw[Go.Lib.compactUpTo_succ]
  by_cases hk:Go.Lib.keeps d m=true
  ·rw[if_pos hk];refine⟨fun x=>?_,?_⟩
   ·rw[List.mem_append,i1,List.mem_singleton];constructor
    ·rintro(⟨j,hj,e⟩|rfl)
     ·exact⟨j,by omega,e⟩
     ·exact⟨m,by omega,rfl⟩
    ·rintro⟨j,hj,e⟩;rcases Nat.lt_or_ge j m with h|h
     ·exact .inl ⟨j,h,e⟩
     ·obtain rfl:j=m:=by omega
      exact .inr e.symm
   ·rw[List.pairwise_append];refine⟨i2,by simp,fun x hx y hy=>?_⟩;rw[List.mem_singleton] at hy;subst hy;obtain⟨j,hj,rfl⟩:=(i1 x).1 hx;have hne:m=0∨d[m]! ≠ d[m-1]! := by simpa[Go.Lib.keeps] using hk
    have hne:=hne.resolve_left (by omega);have h1:d[j]!<=d[m-1]! := by
     rcases Nat.lt_or_ge j (m-1) with h|h
     ·exact bCc hs h (by omega)
     ·obtain rfl:j=m-1:=by omega
      exact List.le_refl _
    have h2:d[m-1]!<=d[m]! := bCc hs (by omega) (by omega)
    by_cases h:d[j]! < d[m]!
    ·exact h
    ·exfalso;have h4:d[m]!<=d[j]! := h;exact hne (List.le_antisymm (List.le_trans h4 h1) h2)
  ·rw[if_neg hk,List.append_nil];refine⟨fun x=>?_,i2⟩;rw[i1];have he:m≠0/\d[m]! = d[m-1]! := by
    have:¬ (m=0∨d[m]! ≠ d[m-1]!):=by simpa[Go.Lib.keeps] using hk
    exact⟨fun h=>this (.inl h),Classical.not_not.1 fun h=>this (.inr h)⟩
   constructor
   ·rintro⟨j,hj,e⟩;exact⟨j,by omega,e⟩
   ·rintro⟨j,hj,e⟩;rcases Nat.lt_or_ge j m with h|h
    ·exact⟨j,h,e⟩
    ·obtain rfl:j=m:=by omega
     exact⟨j-1,by omega,by rw[<-he.2];exact e⟩
theorem bB9(hs:ss.Pairwise (·<=·))(x:List UInt8):x∈Go.Lib.compact ss↔x∈ss:=by
 rw[Go.Lib.compact,(bB1 ss.toArray hs ss.length (by simp)).1 x,List.mem_iff_getElem];constructor
 ·rintro⟨j,hj,e⟩;refine⟨j,hj,?_⟩;rw[getElem!_pos ss.toArray j (by simpa using hj)] at e;simpa using e
 ·rintro⟨j,hj,e⟩;refine⟨j,hj,?_⟩;rw[getElem!_pos ss.toArray j (by simpa using hj)];simpa using e
theorem bCa(hs:ss.Pairwise (·<=·)):(Go.Lib.compact ss).Pairwise (· < ·):=(bB1 ss.toArray hs ss.length (by simp)).2
end
theorem bBq(zs:List (List UInt8)):(zs.mergeSort fun x y=>decide (x<=y)).Pairwise (·<=·):=by
 have h:=List.pairwise_mergeSort (le:=fun x y:List UInt8=>decide (x<=y)) (fun a b c h1 h2=>by simp only[decide_eq_true_eq] at *;exact List.le_trans h1 h2) (fun a b=>by simp only[Bool.or_eq_true,decide_eq_true_eq];exact List.le_total a b) zs;exact h.imp fun {a b} h=>by simpa using h
end
section
open Go Go.RowKit Num
def iS(l:List (List UInt8)):List Value:=l.map (fun s=>.string ⟨s.toArray⟩)
end
section
open Go Go.RowKit Num
def Wi(ss:List (List UInt8)):List ByteArray:=ss.map fun s=>⟨s.toArray⟩
theorem yJ(ss:List (List UInt8)):(Wi ss).length=ss.length:=List.length_map ..
theorem aDo{a b:List UInt8}(h:(⟨a.toArray⟩:ByteArray)=⟨b.toArray⟩):a=b:=by
 injection h with h
 simpa using h
theorem Zx{a b:List (List UInt8)}(h:Wi a=Wi b):a=b:=by
 unfold Wi at h;exact List.map_inj_right (fun x y h=>aDo h) |>.1 h
theorem Pk(ss:List (List UInt8)):iS ss=(Wi ss).map Value.string:=by unfold iS Wi;rw[List.map_map];rfl
theorem Nw{w:World}{a:Option Addr}{ss:List (List UInt8)}(h:dT w a (iS ss)):ss=[]∨∃b off,a=some ⟨b,off,none⟩/\∀j,j<(Wi ss).length->w.cell? ⟨b,off+j,none⟩=some (.string ((Wi ss).getD j ByteArray.empty)):=by
 rcases h with h|⟨b,off,ha,_,hc⟩
 ·exact .inl (List.map_eq_nil_iff.1 h)
 ·refine .inr ⟨b,off,ha,fun j hj=>hc j _ ?_⟩;rw[Pk,List.getElem?_map,List.getD_eq_getElem?_getD,Lg hj];rfl
theorem Ep(ss ts:List (List UInt8))(a a2:Option Addr)(c c2:Nat)(w:World)(hn:ss.length<=1000000)(hm:ts.length<=1000000)(h:dT w a (iS ss))(h2:dT w a2 (iS ts)):
  Calls prog 16 #[.slice a ss.length c,.slice a2 ts.length c2] w fun e w'=>e=.returned (.bool (decide (ss=ts)))/\Below w.heap.size w w':=by
 rcases Nw h with rfl|⟨b,off,rfl,hc⟩
 ·refine(slices_Equal_string_empty a a2 c ts.length c2 w (by omega)).mono ?_;rintro e w' ⟨rfl,rfl⟩;refine⟨?_,Br _ _⟩;congr 2;exact decide_eq_decide.2 ⟨fun h=>(List.length_eq_zero_iff.1 h).symm,fun h=>by rw[<-h];rfl⟩
 ·rcases Nw h2 with rfl|⟨b2,off2,rfl,hc2⟩
  ·by_cases h0:ss=[]
   ·subst h0;refine(slices_Equal_string_empty _ a2 c 0 c2 w (by omega)).mono ?_;rintro e w' ⟨rfl,rfl⟩;exact⟨rfl,Br _ _⟩
   ·have hl:ss.length≠0:=fun h=>h0 (List.length_eq_zero_iff.1 h)
    refine(slices_Equal_string_lens _ a2 ss.length c 0 c2 w hl).mono ?_;rintro e w' ⟨rfl,rfl⟩;exact⟨by rw[decide_eq_false h0],Br _ _⟩
  ·have h:=slices_Equal_string b off ss.length c b2 off2 ts.length c2 (Wi ss) (Wi ts) w (by rw[yJ];exact Nl _) (by rw[yJ];exact Nl _) (by omega) (by omega) hc hc2;refine h.mono ?_;rintro e w' ⟨rfl,q,rfl⟩;rw[List.take_of_length_le (by rw[yJ];exact Nl _),List.take_of_length_le (by rw[yJ];exact Nl _)];refine⟨?_,aD (Br _ _) q⟩;congr 2;exact decide_eq_decide.2 ⟨Zx,fun h=>by rw[h]⟩
end
section
open Go.RowKit Num
def eY(k:Int):Int:=match aX.find? (fun p=>p.1==k) with
 |some p=>p.2.cls
 |none=>0
def sS(a b:List UInt8):Int:=if a<b then -1 else if b<a then 1 else 0
def iL(a b:aE):Int:=if bG a.day b.day≠0 then bG a.day b.day else if bG (eY a.kind) (eY b.kind)≠0 then bG (eY a.kind) (eY b.kind) else sS a.key b.key
theorem iC{a b:Int}:bG a b=0↔a=b:=by
 unfold bG;split
 ·simp;omega
 ·split
  ·simp;omega
  ·simp;omega
theorem Rj{a b:List UInt8}:sS a b=0↔a=b:=by
 unfold sS;split
 ·rename_i h;simp;intro e;subst e;exact List.lt_irrefl _ h
 ·rename_i h;split
  ·rename_i h2;simp;intro e;subst e;exact List.lt_irrefl _ h2
  ·rename_i h2;simp;exact List.le_antisymm h2 h
end
end Go.Proofs.YthjekgfoidmagaaGreatDoor
