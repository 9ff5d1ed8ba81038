/- Rem Sorted Sorted2 Strs ViewP ElectP FindP -/
import Derived.Test.YtejkibnaidiklaaGreatDoorJOpen
import Derived.Test.YtejkibnaidiklaaGreatDoorJFactC
set_option maxHeartbeats 16000000
set_option maxRecDepth 100000
namespace Go.Proofs.YtejkibnaidiklaaGreatDoor
open Go.Proofs.Tryz
section
open Go.RowKit Num
theorem Jo{P:Program}(w:World){ops:Array Oper}{rest:List Oper}{o:Oper}{a:Act}{Q:Exit->Act->World->Prop}(hg:o.guard=none)(dst:Option Tmp)(hdst:o.dst=dst)(s x:Operand)(t u:TypeId)(ho:o.op=.binOp .add t s x u)(bs:ByteArray)(l m:List UInt8)
  (hs:a.eval s=.string bs) (hb:bs=⟨l.toArray⟩) (hx:a.eval x=.string ⟨m.toArray⟩) (hl:l.length+m.length<=1000000) (h:wpList P ops Q rest (a.put dst (.string ⟨(l++m).toArray⟩)) w):wpList P ops Q (o::rest) a w:=by
 subst hdst;subst hb;refine wpList_plain hg fun K hK=>?_
 have hrun:(Go.Op.stringOp .add ⟨l.toArray⟩ ⟨m.toArray⟩).run P w=.ok (.string ⟨(l++m).toArray⟩) w:=by
  have hsz:¬ (((⟨l.toArray⟩:ByteArray).size+(⟨m.toArray⟩:ByteArray).size:Nat):Int)>IntKind.i64.max:=by
   have e1:(⟨l.toArray⟩:ByteArray).size=l.length:=rfl;have e2:(⟨m.toArray⟩:ByteArray).size=m.length:=rfl;have e3:IntKind.i64.max=9223372036854775807:=rfl;rw[e1,e2,e3];omega
  have hap:(⟨l.toArray⟩:ByteArray)++⟨m.toArray⟩=⟨(l++m).toArray⟩:=by
   apply ByteArray.ext;simp
  unfold Go.Op.stringOp;simp only;rw[if_neg hsz,hap];rfl
 unfold Oper.wp;simp[execOp,ho,hs,hx,Result.andThen,binOp,eqGuard,hrun];exact hK _ _ h
end
section
open Go Go.RowKit Num
def iS(l:List (List UInt8)):List Value:=l.map (fun s=>.string ⟨s.toArray⟩)
end
section
open Go Go.RowKit Num
def Wi(ss:List (List UInt8)):List ByteArray:=ss.map fun s=>⟨s.toArray⟩
theorem yJ(ss:List (List UInt8)):(Wi ss).length=ss.length:=List.length_map ..
theorem aDo{a b:List UInt8}(h:(⟨a.toArray⟩:ByteArray)=⟨b.toArray⟩):a=b:=by
 injection h with h
 simpa using h
theorem Zx{a b:List (List UInt8)}(h:Wi a=Wi b):a=b:=by
 unfold Wi at h;exact List.map_inj_right (fun x y h=>aDo h) |>.1 h
theorem Pk(ss:List (List UInt8)):iS ss=(Wi ss).map Value.string:=by unfold iS Wi;rw[List.map_map];rfl
theorem Nw{w:World}{a:Option Addr}{ss:List (List UInt8)}(h:dT w a (iS ss)):ss=[]∨∃b off,a=some ⟨b,off,none⟩/\∀j,j<(Wi ss).length->w.cell? ⟨b,off+j,none⟩=some (.string ((Wi ss).getD j ByteArray.empty)):=by
 rcases h with h|⟨b,off,ha,_,hc⟩
 ·exact .inl (List.map_eq_nil_iff.1 h)
 ·refine .inr ⟨b,off,ha,fun j hj=>hc j _ ?_⟩;rw[Pk,List.getElem?_map,List.getD_eq_getElem?_getD,Lg hj];rfl
theorem Ep(ss ts:List (List UInt8))(a a2:Option Addr)(c c2:Nat)(w:World)(hn:ss.length<=1000000)(hm:ts.length<=1000000)(h:dT w a (iS ss))(h2:dT w a2 (iS ts)):
  Calls prog 38 #[.slice a ss.length c,.slice a2 ts.length c2] w fun e w'=>e=.returned (.bool (decide (ss=ts)))/\Below w.heap.size w w':=by
 rcases Nw h with rfl|⟨b,off,rfl,hc⟩
 ·refine(slices_Equal_string_empty a a2 c ts.length c2 w (by omega)).mono ?_;rintro e w' ⟨rfl,rfl⟩;refine⟨?_,Br _ _⟩;congr 2;exact decide_eq_decide.2 ⟨fun h=>(List.length_eq_zero_iff.1 h).symm,fun h=>by rw[<-h];rfl⟩
 ·rcases Nw h2 with rfl|⟨b2,off2,rfl,hc2⟩
  ·by_cases h0:ss=[]
   ·subst h0;refine(slices_Equal_string_empty _ a2 c 0 c2 w (by omega)).mono ?_;rintro e w' ⟨rfl,rfl⟩;exact⟨rfl,Br _ _⟩
   ·have hl:ss.length≠0:=fun h=>h0 (List.length_eq_zero_iff.1 h)
    refine(slices_Equal_string_lens _ a2 ss.length c 0 c2 w hl).mono ?_;rintro e w' ⟨rfl,rfl⟩;exact⟨by rw[decide_eq_false h0],Br _ _⟩
  ·have h:=slices_Equal_string b off ss.length c b2 off2 ts.length c2 (Wi ss) (Wi ts) w (by rw[yJ];exact Nl _) (by rw[yJ];exact Nl _) (by omega) (by omega) hc hc2;refine h.mono ?_;rintro e w' ⟨rfl,q,rfl⟩;rw[List.take_of_length_le (by rw[yJ];exact Nl _),List.take_of_length_le (by rw[yJ];exact Nl _)];refine⟨?_,aD (Br _ _) q⟩;congr 2;exact decide_eq_decide.2 ⟨Zx,fun h=>by rw[h]⟩
end
section
open Go.RowKit Num
def eY(k:Int):Int:=match aX.find? (fun p=>p.1==k) with
 |some p=>p.2.cls
 |none=>0
def sS(a b:List UInt8):Int:=if a<b then -1 else if b<a then 1 else 0
def iL(a b:aE):Int:=if bG a.day b.day≠0 then bG a.day b.day else if bG (eY a.kind) (eY b.kind)≠0 then bG (eY a.kind) (eY b.kind) else sS a.key b.key
theorem iC{a b:Int}:bG a b=0↔a=b:=by
 unfold bG;split
 ·simp;omega
 ·split
  ·simp;omega
  ·simp;omega
theorem Zu{a b:List UInt8}:sS a b<0↔a<b:=by
 unfold sS;split
 ·simp[*]
 ·split <;> simp[*]
theorem Rj{a b:List UInt8}:sS a b=0↔a=b:=by
 unfold sS;split
 ·rename_i h;simp;intro e;subst e;exact List.lt_irrefl _ h
 ·rename_i h;split
  ·rename_i h2;simp;intro e;subst e;exact List.lt_irrefl _ h2
  ·rename_i h2;simp;exact List.le_antisymm h2 h
def yL:List (List UInt8)->Option aE->List aE->Int
 |_,_,[]=>0
 |seen,prev,f::r =>
  if bY f≠0 then bY f else if f.cancelled=true then 19 else if f.stamp≠0 then 1 else if seen.contains f.key=true then 5
  else if prev.any (fun p=>decide (0<=iL p f))=true then 8 else yL (seen ++ [f.key]) (some f) r
def dF(fs:List aE):Int:=if 1000<fs.length then 4 else yL [] none fs
theorem Sg{fs:List aE}{k:Nat}{f:aE}(h:fs[k]?=some f):yL ((fs.take k).map (·.key)) (if k=0 then none else fs[k-1]?) (fs.drop k) =
  (if bY f≠0 then bY f else if f.cancelled=true then 19 else if f.stamp≠0 then 1 else if((fs.take k).map (·.key)).contains f.key=true then 5
  else if(if k=0 then none else fs[k-1]?).any (fun p=>decide (0<=iL p f))=true then 8 else yL ((fs.take (k+1)).map (·.key)) (if k+1=0 then none else fs[k+1-1]?) (fs.drop (k+1))):=by
 obtain⟨hl,he⟩:=Li.1 h;have e1:(if k+1=0 then none else fs[k+1-1]?)=some f:=by rw[if_neg (by omega),Nat.add_sub_cancel,h]
 have e2:(fs.take (k+1)).map (·.key)=(fs.take k).map (·.key) ++ [f.key]:=by rw[List.take_add_one,h,List.map_append];rfl
 rw[e1,e2,List.drop_eq_getElem_cons hl,he];rfl
end
section
open Go.RowKit Num
theorem Zv{a b:aE}:iL a b<0↔a.day<b.day∨(a.day=b.day/\(eY a.kind<eY b.kind∨(eY a.kind=eY b.kind/\a.key<b.key))):=by
 unfold iL
 by_cases h1:a.day=b.day
 ·rw[if_neg (by rw[Decidable.not_not,iC];exact h1)]
  by_cases h2:eY a.kind=eY b.kind
  ·rw[if_neg (by rw[Decidable.not_not,iC];exact h2),Zu];simp[h1,h2]
  ·rw[if_pos (by rw[ne_eq,iC];exact h2),cmpI_lt];simp[h1,h2]
 ·rw[if_pos (by rw[ne_eq,iC];exact h1),cmpI_lt];simp[h1]
theorem Mb{a b c:aE}(h1:iL a b<0)(h2:iL b c<0):iL a c<0:=by
 rw[Zv] at *;rcases h1 with h1|⟨h1,h1'|⟨h1',h1''⟩⟩ <;> rcases h2 with h2|⟨h2,h2'|⟨h2',h2''⟩⟩
 all_goals first
  |exact .inl (by omega)
  |exact .inr ⟨by omega,.inl (by omega)⟩
  |exact .inr ⟨by omega,.inr ⟨by omega,List.lt_trans h1'' h2''⟩⟩
theorem Wk{fs:List aE}:∀ {seen:List (List UInt8)}{prev:Option aE},yL seen prev fs=0↔((∀f,f∈fs->bY f=0/\f.cancelled=false/\f.stamp=0)/\(∀f,f∈fs->f.key ∉ seen)/\(fs.map (·.key)).Nodup/\fs.Pairwise (fun a b=>iL a b<0)/\∀p,prev=some p->∀f,f∈fs->iL p f<0):=by
 induction fs with
 |nil=>intro seen prev;simp[yL]
 |cons f r ih =>
  intro seen prev;have e:yL seen prev (f::r)=0↔(bY f=0/\f.cancelled=false/\f.stamp=0)/\f.key ∉ seen/\(∀p,prev=some p->iL p f<0)/\yL (seen ++ [f.key]) (some f) r=0:=by
   rw[show yL seen prev (f::r)=(if bY f≠0 then bY f else if f.cancelled=true then 19 else if f.stamp≠0 then 1 else if seen.contains f.key=true then 5 else if prev.any (fun p=>decide (0<=iL p f))=true then 8 else yL (seen ++ [f.key]) (some f) r) from rfl];generalize yL (seen ++ [f.key]) (some f) r=nx
   by_cases h1:bY f=0
   ·rw[if_neg (by simpa using h1)]
    by_cases h2:f.cancelled=true
    ·rw[if_pos h2];simp[h2]
    ·rw[if_neg h2];have h2':f.cancelled=false:=by simpa using h2
     by_cases h3:f.stamp=0
     ·rw[if_neg (by simpa using h3)]
      by_cases h4:f.key∈seen
      ·rw[if_pos (by simpa using h4)];simp[h4]
      ·rw[if_neg (by simpa using h4)];cases prev with
       |none=>simp[h1,h2',h3,h4]
       |some p =>
        by_cases h5:0<=iL p f
        ·rw[if_pos (by simpa using h5)];simp;omega
        ·rw[if_neg (by simpa using h5)];simp[h1,h2',h3,h4];omega
     ·rw[if_pos (by simpa using h3)];simp[h3]
   ·rw[if_pos h1];simp[h1]
  rw[e,ih];constructor
  ·rintro⟨h1,h2,h3,h4,h5,h6,h7,h8⟩;refine⟨?_,?_,?_,List.pairwise_cons.2 ⟨h8 f rfl,h7⟩,?_⟩
   ·intro g hg;rcases List.mem_cons.1 hg with rfl|hg
    ·exact h1
    ·exact h4 g hg
   ·intro g hg;rcases List.mem_cons.1 hg with rfl|hg
    ·exact h2
    ·exact fun hm=>h5 g hg (List.mem_append_left _ hm)
   ·rw[List.map_cons,List.nodup_cons];refine⟨fun hm=>?_,h6⟩;obtain⟨g,hg,eg⟩:=List.mem_map.1 hm;exact h5 g hg (by rw[eg];simp)
   ·intro p hp g hg;rcases List.mem_cons.1 hg with rfl|hg
    ·exact h3 p hp
    ·exact Mb (h3 p hp) (h8 f rfl g hg)
  ·rintro⟨h1,h2,h3,h4,h5⟩;rw[List.map_cons,List.nodup_cons] at h3;obtain⟨h6,h7⟩:=List.pairwise_cons.1 h4;refine⟨h1 f (by simp),h2 f (by simp),fun p hp=>h5 p hp f (by simp),fun g hg=>h1 g (by simp[hg]),fun g hg hm=>?_,h3.2,h7,fun p hp g hg=>by injection hp with hp;subst hp;exact h6 g hg⟩;rcases List.mem_append.1 hm with hm|hm
   ·exact h2 g (by simp[hg]) hm
   ·rw[List.mem_singleton] at hm;exact h3.1 (List.mem_map.2 ⟨g,hg,hm⟩)
theorem oW{fs:List aE}:dF fs=0↔fs.length<=1000/\(∀f,f∈fs->bY f=0/\f.cancelled=false/\f.stamp=0)/\(fs.map (·.key)).Nodup/\fs.Pairwise (fun a b=>iL a b<0):=by
 unfold dF
 by_cases h:1000<fs.length
 ·rw[if_pos h];constructor
  ·intro h;cases h
  ·intro h';omega
 ·rw[if_neg h,Wk];constructor
  ·rintro⟨h1,_,h3,h4,_⟩;exact⟨by omega,h1,h3,h4⟩
  ·rintro⟨_,h1,h3,h4⟩;exact⟨h1,by simp,h3,h4,by simp⟩
theorem Ac{f:aE}{k:bH}{l:List Nat}:bS f k l=0↔∀i,i∈l->bX f k i=0:=by
 induction l with
 |nil=>simp[bS]
 |cons i r ih =>
  unfold bS
  by_cases h:bX f k i=0
  ·rw[if_neg (by simpa using h),ih];simp[h]
  ·rw[if_pos h];simp[h]
theorem mY{f:aE}(hc:f.cancelled=false):bY f=0↔dC f.key=true/\0<=f.stamp/\(-25567<=f.day/\f.day<=84005)/\∃q,aX.find? (fun p=>p.1==f.kind)=some q/\∀i,i<13->bX f q.2 i=0:=by
 unfold bY;cases hn:dC f.key with
 |false=>simp
 |true =>
  simp only[Bool.true_eq_false,if_false,true_and]
  by_cases h1:f.stamp<0
  ·rw[if_pos h1];constructor
   ·intro h;cases h
   ·intro h;omega
  ·rw[if_neg h1,if_neg (by simp[hc])]
   by_cases h2:f.day < -25567∨84005<f.day
   ·rw[if_pos h2];constructor
    ·intro h;cases h
    ·intro h;omega
   ·rw[if_neg h2];cases hq:aX.find? (fun p=>p.1==f.kind) with
    |none=>simp
    |some q =>
     simp only[Ac,List.mem_range];constructor
     ·exact fun h=>⟨by omega,by omega,q,rfl,h⟩
     ·rintro⟨_,_,q',e,h⟩;injection e with e
      subst e;exact h
end
section
open Go Go.RowKit Num
def lT(fs:List aE)(key:List UInt8):Option Nat:=fs.findIdx? fun f=>f.key==key
def qN(fs:List aE)(key:List UInt8):Value:=match lT fs key with
 |some i=>.tuple #[.int .i64 (i:Int),.bool true]
 |none=>.tuple #[.int .i64 0,.bool false]
theorem Ab{fs:List aE}{key:List UInt8}{k:Nat}{f:aE}(h:∀j g,j<k->fs[j]?=some g->(g.key==key)=false)(hf:fs[k]?=some f)(e:(f.key==key)=true):lT fs key=some k:=by
 unfold lT;rw[List.findIdx?_eq_some_iff_getElem];obtain⟨hl,he⟩:=Li.1 hf;refine⟨hl,by rw[he];exact e,fun j hj=>?_⟩;have:=h j fs[j] hj (Lg (by omega));simp[this]
theorem Aa{fs:List aE}{key:List UInt8}(h:∀j g,j<fs.length->fs[j]?=some g->(g.key==key)=false):lT fs key=none:=by
 unfold lT;rw[List.findIdx?_eq_none_iff];intro f hf;obtain⟨j,hj⟩:=List.getElem?_of_mem hf;exact h j f (Li.1 hj).1 hj
end
end Go.Proofs.YtejkibnaidiklaaGreatDoor
