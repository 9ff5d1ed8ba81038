/- Field0 Check0 Check1 -/
import Derived.Test.YthjekgfoidmagaaGreatDoorUKinds5
set_option maxHeartbeats 16000000
set_option maxRecDepth 100000
namespace Go.Proofs.YthjekgfoidmagaaGreatDoor
open Tryz
section
open Go Go.RowKit Num
theorem nI(k:bH):k.has.length=13:=by simp[bH.has]
theorem Le{k:bH}{m:Value}:(aK k.word k.cls k.has m k.code)[15]?=some m:=by
 unfold aK;rw[List.getElem?_toArray,List.getElem?_append_right (by simp[nI])];simp[nI]
theorem yT{P:Program}{w:World}{b:Nat}{cs:Array Value}{T ty:TypeId}{d:TypeDesc}(h:aP w b cs T)(hu:P.underlying ty=some d)(hd:(match d with | .struct _ | .array _ _=>true|_=>false)=true)(hi:(P.info? ty).map (·.size)=some cs.size):
  (Instr.loadAt ty (.pointer (some ⟨b,0,none⟩))).run P w=.ok (.agg cs) w:=by
 simp only[Instr.loadAt,Instr.sureAddr,Sem.run_bind,Sem.run_pure,Result.andThen_ok,run_loadVar_row w b T ty cs (0,0) d h.2 hu hd hi]
theorem Ga(k x:Int):Instr.sameNow (.int .i64) (.int .i64 k) (.int .i64 x)=some (k==x):=by
 simp[Instr.sameNow]
theorem Ej{es:List MapEntry}{kvs:List (Int×Value)}(h:es.map (fun e=>(e.key,e.val))=kvs.map (fun p=>(Value.int .i64 p.1,p.2))){k:Int}{p:Int×Value}(hf:kvs.find? (fun p=>p.1==k)=some p):
  ∀n,∃j,Instr.findNow (.int .i64) (.int .i64 k) es n=some (some (j,p.2)):=by
 induction es generalizing kvs with
 |nil=>cases kvs with
  |nil=>cases hf
  |cons x r=>cases h
 |cons e es ih =>
  intro n;cases kvs with
  |nil=>cases h
  |cons x r =>
   simp only[List.map_cons,List.cons.injEq,Prod.mk.injEq] at h;obtain⟨⟨h1,h2⟩,h3⟩:=h;rw[List.find?_cons] at hf;unfold Instr.findNow;rw[h1]
   by_cases hx:x.1=k
   ·subst hx;simp only[beq_self_eq_true] at hf;injection hf with hf
    subst hf;rw[<-h2];exact⟨n,by rw[Ga];simp⟩
   ·have hb:(x.1==k)=false:=by simpa using hx
    rw[hb] at hf;obtain⟨j,hj⟩:=ih h3 hf (n+1);exact⟨j,by rw[Ga,show (k==x.1)=false from by simpa using fun e=>hx e.symm];exact hj⟩
theorem pV{P:Program}{w:World}{b:Nat}{kvs:List (Int×Value)}{t kt et:TypeId}{ok:Bool}(hm:P.underlying t=some (.map kt et))(hk:P.underlying kt=some (.int .i64))(h:eL w b kvs)(k:Int)(p:Int×Value)(hf:kvs.find? (fun p=>p.1==k)=some p):
  (Instr.lookup t (.map (some b)) (.int .i64 k) ok).run P w=.ok (if ok then .tuple #[p.2,.bool true] else p.2) w:=by
 obtain⟨es,clock,hb,he⟩:=h;obtain⟨j,hf'⟩:=Ej he hf 0;have hc:(Instr.checkKey es.isEmpty 10000 kt (.int .i64 k)).run P w=.ok () w:=MapKept.run_checkKey hk jW _ 9999;simp[Instr.lookup,run_underlying hm,MapKept.run_getObj_map hb,hc,MapKept.run_findKey hk hf',Result.andThen]
theorem aAq{P:Program}{o:Oper}{a:Act}{w:World}{t:TypeId}{x:Operand}{p v:Value}(hop:o.op=.load t x)(hx:a.eval x=p)(hrun:(Instr.loadAt t p).run P w=.ok v w):(execOp a.eval o).run P w=.ok (.value v) w:=by
 subst hx;simp[execOp,hop,hrun,Result.andThen]
theorem mI{f:aE}(hs:f.small)(i:Nat):(f.num i).n.length<=400/\(f.num i).d.length<=400:=by
 unfold aE.num;split
 ·exact⟨hs.q,Nat.zero_le _⟩
 ·split
  ·exact⟨hs.amt,Nat.zero_le _⟩
  ·split
   ·exact⟨hs.fee,Nat.zero_le _⟩
   ·split
    ·exact hs.price
    ·split
     ·exact hs.ratio
     ·exact hs.share
theorem aAw(p q:Bool)(hpq:(p&&q)=false)(n d:List UInt8)(bp bq:Nat)(w:World)(hE:iE w)(hn:n.length<=400)(hd:d.length<=400)(hp:aP w bp #[.bool p] 4)(hq:aP w bq #[.bool q] 4):
  Calls prog 139 #[.agg #[.string ⟨n.toArray⟩,.string ⟨d.toArray⟩],.pointer (some ⟨bp,0,none⟩),.pointer (some ⟨bq,0,none⟩)] w fun e w'=>e=.returned (.int .i64 (lim p q n d))/\Below w.heap.size w w':=by
 cases p <;> cases q
 ·exact aZ3 false false rfl n d bp bq _ _ w hE hn hd hp hq
 ·exact aZ3 false true rfl n d bp bq _ _ w hE hn hd hp hq
 ·exact aZ3 true false rfl n d bp bq _ _ w hE hn hd hp hq
 ·cases hpq
end
section
open Go Go.RowKit Num
def jE(id:Nat):Code->Option (Array Oper)
 | .region i ops _=>if i=id then some ops else none
 | .seq a b=>(jE id a).or (jE id b)
 | .cond _ a b=>(jE id a).or (jE id b)
 | .block _ b=>jE id b
 | .loop b=>jE id b
 |_=>none
theorem xM{ops:Array Oper}{md:Region.Mode}{l:Array Bool}(hsz:l.size=ops.size)(hfw:∀(i:Nat) (o:Oper),ops[i]?=some o->∀e∈o.after,Region.binds md e=true->e.on<i)(h:Region.ready md ops l=[]):∀i,i<ops.size->l.getD i true=true:=by
 intro i
 induction i using Nat.strongRecOn with
 |ind i ih =>
  intro hi;cases hl:l.getD i true with
  |true=>rfl
  |false =>
   exfalso;have:i∈Region.ready md ops l:=by
    refine mem_ready.2 ⟨hl,ops[i],Array.getElem?_eq_getElem hi,fun e he hbd=>?_⟩;have hlt:=hfw i ops[i] (Array.getElem?_eq_getElem hi) e he hbd;have:=ih e.on hlt (by omega);rw[Array.getD_eq_getD_getElem?,Array.getElem?_eq_getElem (by omega)] at this ⊢;exact this
   rw[h] at this;simp at this
def ZK:Array Value:=#[.string ⟨#[]⟩,.int .i64 0,.bool false,.bool false,.bool false,.bool false,.bool false,.bool false,.bool false,.bool false,.bool false,.bool false,.bool false,.bool false,.bool false,.map none,.bool false]
def Jm(w:World)(kq:Option (Int×bH))(v:Value):Prop :=
 match kq with
 |some q=>oG w v q.2
 |none=>v=.agg ZK
theorem Jm.below{w w':World}{kq:Option (Int×bH)}{v:Value}(h:Jm w kq v)(hb:Below w.heap.size w w'):Jm w' kq v:=by
 cases kq with
 |none=>exact h
 |some q=>exact oG.below h hb
theorem Cr{k:bH}{m:Value}:(aK k.word k.cls k.has m k.code).size=17:=by unfold aK;simp[nI]
theorem Jm.cells{w:World}{kq:Option (Int×bH)}{v:Value}(h:Jm w kq v):∃cs,v=.agg cs/\cs.size=17/\cs.all (·.oneCell')=true:=by
 cases kq with
 |none=>exact⟨ZK,h,rfl,by simp[ZK,Value.oneCell']⟩
 |some q =>
  obtain⟨mv,e,_⟩:=h;exact⟨_,e,Cr,mU⟩
theorem yQ{w:World}{b bk:Nat}{cs old new:Array Value}{T T':TypeId}(h:aP w b cs T)(hk:aP w bk old T')(hs:cs.size≠old.size):aP (w.setRow bk new) b cs T:=by
 have hne:b≠bk:=by
  rintro rfl;have:=h.2.symm.trans hk.2;injection this with this
  injection this with e1
  exact hs (by rw[e1])
 exact⟨by simp[World.setRow];exact h.1,(setRow_other w bk b new hne).trans h.2⟩
theorem Jv{w:World}{b bk:Nat}{kvs:List (Int×Value)}{old new:Array Value}{T':TypeId}(h:eL w b kvs)(hk:aP w bk old T'):eL (w.setRow bk new) b kvs:=by
 obtain⟨es,clock,hb,he⟩:=h;have hne:b≠bk:=by
  rintro rfl;have:=hb.symm.trans hk.2;injection this with this
  cases this
 exact⟨es,clock,(setRow_other w bk b new hne).trans hb,he⟩
theorem Jm.setRow{w:World}{kq:Option (Int×bH)}{v:Value}{bk:Nat}{old new:Array Value}{T':TypeId}(h:Jm w kq v)(hk:aP w bk old T')(hs:old.size=17):Jm (w.setRow bk new) kq v:=by
 cases kq with
 |none=>exact h
 |some q =>
  obtain⟨mv,e,h⟩:=h;refine⟨mv,e,h.imp id ?_⟩;rintro⟨b,kvs,e1,h1,h2,h3⟩;refine⟨b,kvs,e1,Jv h1 hk,h2.mono fun v pq hl=>?_,h3⟩;obtain⟨bp,bq,e2,l1,l2⟩:=hl;exact⟨bp,bq,e2,yQ l1 hk (by simp[hs]),yQ l2 hk (by simp[hs])⟩
theorem Cm{β:Type}{l:List (Int × β)}(hn:(l.map Prod.fst).Nodup){x y:Int × β}(hx:x∈l)(hy:y∈l)(e:x.1=y.1):x=y:=by
 obtain⟨i,hi⟩:=List.getElem?_of_mem hx;obtain⟨j,hj⟩:=List.getElem?_of_mem hy;have hl:i<(l.map Prod.fst).length:=by rw[List.length_map];exact(Li.1 hi).1
 have:=(List.getElem?_inj hl hn (j:=j)).1 (by rw[List.getElem?_map,List.getElem?_map,hi,hj];simp[e]);subst this;rw[hi] at hj;exact Option.some.inj hj
theorem zM:(aX.map Prod.fst).Nodup:=by decide +kernel
theorem Sb(w:World):(zeroValue 62).run prog w=.ok (.agg ZK) w:=by kernel_rfl
theorem Co{w:World}{bm:Nat}(h:pQ w bm)(kd:Int):∃v,Jm w (aX.find? fun p=>p.1==kd) v/\(Instr.lookup 64 (.map (some bm)) (.int .i64 kd) true).run prog w=.ok (.tuple #[v,.bool (aX.find? fun p=>p.1==kd).isSome]) w:=by
 obtain⟨kvs,h1,h2,h3⟩:=h;cases hf:aX.find? fun p=>p.1==kd with
 |none =>
  refine⟨.agg ZK,rfl,?_⟩;have:=xT underlying64 underlying3 (Sb w) h1.1 kd (fun p hp e=>by
   obtain⟨q,hq,e1,_⟩:=h2 p hp;have:=List.find?_eq_none.1 hf q hq;simp[<-e1,e] at this) true
  simpa using this
 |some q =>
  have hq:=List.mem_of_find?_eq_some hf;have hqk:q.1=kd:=by have:=List.find?_some hf;simpa using this
  obtain⟨p0,hp0,e0⟩:=h3 q hq;cases hp:kvs.find? fun p=>p.1==kd with
  |none =>
   have:=List.find?_eq_none.1 hp p0 hp0;simp[e0,hqk] at this
  |some p =>
   have hpm:=List.mem_of_find?_eq_some hp;have hpk:p.1=kd:=by have:=List.find?_some hp;simpa using this
   obtain⟨q',hq',e1,hk⟩:=h2 p hpm;obtain rfl:=Cm zM hq' hq (by rw[<-e1,hpk,hqk]);refine⟨p.2,hk,?_⟩;have:=pV (ok:=true) underlying64 underlying3 h1.1 kd p hp;simpa using this
def Au:Nat->Nat
 |0=>33
 |1=>34
 |2=>35
 |3=>36
 |4=>32
 |5=>37
 |6=>38
 |7=>3
 |9=>4
 |_=>1000
def lP(l:Array Bool)(i:Nat):Prop:=l.getD i false=true
def CF(w0:World)(bf:Nat)(kd:Int)(kq:Option (Int×bH))(l:Array Bool)(a:Act)(w:World):Nat->Prop
 |0=>¬ lP l 3->∃bm,a.tmps[33]?=some (.map (some bm))/\pQ w bm
 |1=>a.tmps[34]?=some (.pointer (some ⟨bf,4,none⟩))
 |2=>a.tmps[35]?=some (.int .i64 kd)
 |3=>¬ lP l 4->∃v,Jm w kq v/\a.tmps[36]?=some (.tuple #[v,.bool kq.isSome])
 |4=>lP l 3/\∃v,a.tmps[32]?=some (.tuple #[v,.bool kq.isSome])/\(¬ lP l 5->Jm w kq v)
 |5=>lP l 4/\(¬ lP l 8->∃v,Jm w kq v/\a.tmps[37]?=some v)
 |6=>a.tmps[38]?=some (.bool kq.isSome)
 |7=>¬ lP l 8->∃bk,a.tmps[3]?=some (.pointer (some ⟨bk,0,none⟩))/\w0.heap.size<=bk/\aP w bk ZK 62
 |8=>lP l 7/\∃bk cs,a.tmps[3]?=some (.pointer (some ⟨bk,0,none⟩))/\w0.heap.size<=bk/\aP w bk cs 62/\Jm w kq (.agg cs)
 |9=>a.tmps[4]?=some (.bool kq.isSome)
 |_=>True
structure CI(w0:World)(bf:Nat)(kd:Int)(kq:Option (Int×bH))(l:Array Bool)(a:Act)(w:World):Prop where
 sz:l.size=10
 ts:a.tmps.size=60
 df:a.defers=[]
 t1:a.tmps[1]?=some (.pointer (some ⟨bf,0,none⟩))
 hb:Below w0.heap.size w0 w
 fs:∀j,lP l j->CF w0 bf kd kq l a w j
theorem fH{l:Array Bool}{i i':Nat}(h:lP l i'):lP (l.setIfInBounds i true) i':=by
 unfold lP at *
 by_cases e:i=i'
 ·subst e;rcases Nat.lt_or_ge i l.size with hl|hl
  ·simp[Array.getD_eq_getD_getElem?,hl]
  ·rw[Array.getD_eq_getD_getElem?,Array.getElem?_eq_none hl] at h;simp at h
 ·rw[Go.getD_set_ne _ e];exact h
theorem mQ{l:Array Bool}{i i':Nat}(h:lP (l.setIfInBounds i true) i')(hne:i'≠i):lP l i':=by
 unfold lP at *;rw[Go.getD_set_ne _ (Ne.symm hne)] at h;exact h
theorem aX6{l:Array Bool}{i:Nat}(h:l.getD i true=false):¬ lP l i:=by
 unfold lP;rw[Array.getD_eq_getD_getElem?] at *;cases e:l[i]? with
 |none=>simp
 |some x=>rw[e] at h;simp at h;simp[h]
theorem zE{l:Array Bool}{i:Nat}(h:i<l.size):lP (l.setIfInBounds i true) i:=by
 unfold lP;simp[Array.getD_eq_getD_getElem?,h]
theorem dY{a:Act}{s x:Nat}{v:Value}(h:x≠s):(a.put (some s) v).tmps[x]?=a.tmps[x]? := by
 simp[Act.put,Array.getElem?_setIfInBounds_ne (Ne.symm h)]
theorem dE{a:Act}{s:Nat}{v:Value}(h:s<a.tmps.size):(a.put (some s) v).tmps[s]?=some v:=by
 simp[Act.put,h]
theorem ev'{a:Act}{s:Nat}{v:Value}(h:a.tmps[s]?=some v):a.eval (.tmp s)=v:=by simp[Act.eval,h]
theorem CF.step{w0 w w':World}{bf:Nat}{kd:Int}{kq:Option (Int×bH)}{l:Array Bool}{a a':Act}{i:Nat}(hi:i<10)(hu:¬ lP l i)(ha:∀x,x≠Au i->a'.tmps[x]?=a.tmps[x]?)(hb:Below w.heap.size w w'){j:Nat}(hne:j≠i)(F:CF w0 bf kd kq l a w j):CF w0 bf kd kq (l.setIfInBounds i true) a' w' j:=by
 have hn:∀x,¬ lP (l.setIfInBounds i true) x->¬ lP l x:=fun x h h'=>h (fH h')
 have hs:∀x y,x<10->x≠8->x≠i->Au x=y->a'.tmps[y]?=a.tmps[y]? := by
  intro x y hx h8 hxi hy;subst hy;apply ha
  revert hx h8 hxi hi
  clear ha hu F hne hn;intro hi hx h8 hxi;have:∀x,x<10->∀i,i<10->x≠8->x≠i->Au x≠Au i:=by decide
  exact this x hx i hi h8 hxi
 match j,hne,F with
 |0,hne,F=>exact fun h=>by obtain⟨bm,h1,h2⟩:=F (hn _ h);exact⟨bm,(hs 0 33 (by decide) (by decide) hne rfl).trans h1,h2.below hb⟩
 |1,hne,F=>exact(hs 1 34 (by decide) (by decide) hne rfl).trans F
 |2,hne,F=>exact(hs 2 35 (by decide) (by decide) hne rfl).trans F
 |3,hne,F=>exact fun h=>by obtain⟨v,h1,h2⟩:=F (hn _ h);exact⟨v,h1.below hb,(hs 3 36 (by decide) (by decide) hne rfl).trans h2⟩
 |4,hne,F=>obtain⟨h0,v,h1,h2⟩:=F;exact⟨fH h0,v,(hs 4 32 (by decide) (by decide) hne rfl).trans h1,fun h=>(h2 (hn _ h)).below hb⟩
 |5,hne,F=>exact⟨fH F.1,fun h=>by obtain⟨v,h1,h2⟩:=F.2 (hn _ h);exact⟨v,h1.below hb,(hs 5 37 (by decide) (by decide) hne rfl).trans h2⟩⟩
 |6,hne,F=>exact(hs 6 38 (by decide) (by decide) hne rfl).trans F
 |7,hne,F=>exact fun h=>by obtain⟨bk,h1,h2,h3⟩:=F (hn _ h);exact⟨bk,(hs 7 3 (by decide) (by decide) hne rfl).trans h1,h2,h3.below hb⟩
 |8,hne,F =>
  obtain⟨h7,bk,cs,h1,h2,h3,h4⟩:=F;have h7i:7≠i:=fun e=>hu (e ▸ h7)
  exact⟨fH h7,bk,cs,(hs 7 3 (by decide) (by decide) h7i rfl).trans h1,h2,h3.below hb,h4.below hb⟩
 |9,hne,F=>exact(hs 9 4 (by decide) (by decide) hne rfl).trans F
 |n+10,_,_=>trivial
theorem CI.quiet{w0 w w':World}{bf:Nat}{kd:Int}{kq:Option (Int×bH)}{l:Array Bool}{a:Act}{i:Nat}{v:Value}(H:CI w0 bf kd kq l a w)(hi:i<10)(hu:l.getD i true=false)(hb:Below w.heap.size w w')
  (F:CF w0 bf kd kq (l.setIfInBounds i true) (a.put (some (Au i)) v) w' i):CI w0 bf kd kq (l.setIfInBounds i true) (a.put (some (Au i)) v) w':=by
 have h1:∀i,i<10->1≠Au i:=by decide
 refine⟨by simpa using H.sz,by simpa[Act.put] using H.ts,by simpa[Act.put] using H.df,(dY (h1 i hi)).trans H.t1,aA H.hb hb,fun j hj=>?_⟩
 by_cases e:j=i
 ·subst e;exact F
 ·exact CF.step hi (aX6 hu) (fun x hx=>dY hx) hb e (H.fs j (mQ hj e))
end
section
open Go Go.RowKit Num
noncomputable def iM:Array Oper:=(Tryz.f12.body.bind (jE 11)).getD #[]
theorem oE{i:Nat}{o:Oper}{x:Op}(h:iM[i]?=some o)(e:(iM[i]?).map (·.op)=some x):o.op=x:=by rw[h] at e;exact Option.some.inj e
theorem lH{i:Nat}{o:Oper}{x:Option Tmp}(h:iM[i]?=some o)(e:(iM[i]?).map (·.dst)=some x):o.dst=x:=by rw[h] at e;exact Option.some.inj e
theorem gB{i:Nat}{o:Oper}{x:Option (Nat×Bool)}(h:iM[i]?=some o)(e:(iM[i]?).map (·.guard)=some x):o.guard=x:=by rw[h] at e;exact Option.some.inj e
theorem Gr{P:Program}{Q:Exit->Act->World->Prop}{o:Oper}{K:Act->World->Prop}{a:Act}{w w':World}{v:Value}(h:(execOp a.eval o).run P w=.ok (.value v) w')(hk:K (a.put o.dst v) w'):o.wp P a w K Q:=by
 unfold Oper.wp;rw[h];exact hk
section
variable {w0 w:World}{bf:Nat}{kd:Int}{l:Array Bool}{a:Act}{Q:Exit->Act->World->Prop}
abbrev CK(w0:World)(bf:Nat)(kd:Int)(l:Array Bool)(a:Act)(w:World):Prop:=CI w0 bf kd (aX.find? fun p=>p.1==kd) l a w
set_option maxRecDepth 100000
theorem aEl(H:CK w0 bf kd l a w)(hr:0∈Region.ready .any iM l):wpOp prog iM Q 0 (CK w0 bf kd (l.setIfInBounds 0 true)) a w:=by
 obtain⟨hu,o,ho,_⟩:=mem_ready.1 hr;have hop:o.op=.call { callee:=.value (.func 34),args:=#[],argTypes:=#[] }:=oE ho (by kernel_rfl);have hd:o.dst=some 33:=lH ho (by kernel_rfl);refine bU ho (gB ho (by kernel_rfl)) (nY (f:=34) (lb:=#[]) hop rfl (aXb func34) ?_);have e:((#[]:Array Operand).map a.eval++#[])=#[]:=by simp
 rw[e];refine(Cq w).mono ?_;rintro e w' ⟨bm,rfl,hm,hb⟩;refine⟨_,rfl,?_⟩;rw[hd];exact H.quiet (i:=0) (by decide) hu hb (fun _=>⟨bm,dE (by rw[H.ts];decide),hm⟩)
theorem aEk(H:CK w0 bf kd l a w)(hr:1∈Region.ready .any iM l):wpOp prog iM Q 1 (CK w0 bf kd (l.setIfInBounds 1 true)) a w:=by
 obtain⟨hu,o,ho,_⟩:=mem_ready.1 hr;have hop:o.op=.fieldAddr 29 (.tmp 1) 4:=oE ho (by kernel_rfl);have hd:o.dst=some 34:=lH ho (by kernel_rfl);refine bU ho (gB ho (by kernel_rfl)) (Gr (v:=.pointer (some ⟨bf,4,none⟩)) (w':=w) ?_ ?_)
 ·simp[execOp,hop,H.t1,go_sem]
 ·rw[hd];exact H.quiet (i:=1) (by decide) hu (Br _ _) (dE (by rw[H.ts];decide))
theorem aEj(hc:∀W,Below w0.heap.size w0 W->W.cell? ⟨bf,4,none⟩=some (.int .i64 kd))(H:CK w0 bf kd l a w)(hr:2∈Region.ready .any iM l):wpOp prog iM Q 2 (CK w0 bf kd (l.setIfInBounds 2 true)) a w:=by
 obtain⟨hu,o,ho,_⟩:=mem_ready.1 hr;have hop:o.op=.load 3 (.tmp 34):=oE ho (by kernel_rfl);have hd:o.dst=some 35:=lH ho (by kernel_rfl);have h34:a.tmps[34]?=some (.pointer (some ⟨bf,4,none⟩)):=H.fs 1 (aG hr (d:=1) (by kernel_rfl));have hcell:=hc w H.hb;refine bU ho (gB ho (by kernel_rfl)) (Kr (v:=.int .i64 kd) hop ?_ ?_)
 ·rw[ev' h34];simp[Instr.loadAt,go_sem,hcell]
 ·rw[hd];exact H.quiet (i:=2) (by decide) hu (Br _ _) (dE (by rw[H.ts];decide))
theorem aEi(H:CK w0 bf kd l a w)(hr:3∈Region.ready .any iM l):wpOp prog iM Q 3 (CK w0 bf kd (l.setIfInBounds 3 true)) a w:=by
 obtain⟨hu,o,ho,_⟩:=mem_ready.1 hr;have hop:o.op=.lookup 64 (.tmp 33) (.tmp 35) true:=oE ho (by kernel_rfl);have hd:o.dst=some 36:=lH ho (by kernel_rfl);obtain⟨bm,h33,hm⟩:=H.fs 0 (aG hr (d:=0) (by kernel_rfl)) (aX6 hu);have h35:a.tmps[35]?=some (.int .i64 kd):=H.fs 2 (aG hr (d:=2) (by kernel_rfl));obtain⟨v,hv,hrun⟩:=Co hm kd;refine bU ho (gB ho (by kernel_rfl)) (Gr (v:=.tuple #[v,.bool (aX.find? fun p=>p.1==kd).isSome]) (w':=w) ?_ ?_)
 ·simp[execOp,hop,ev' h33,ev' h35,hrun,Result.andThen]
 ·rw[hd];exact H.quiet (i:=3) (by decide) hu (Br _ _) (fun _=>⟨v,hv,dE (by rw[H.ts];decide)⟩)
theorem aEh(H:CK w0 bf kd l a w)(hr:4∈Region.ready .any iM l):wpOp prog iM Q 4 (CK w0 bf kd (l.setIfInBounds 4 true)) a w:=by
 obtain⟨hu,o,ho,_⟩:=mem_ready.1 hr;have hop:o.op=.move (.tmp 36):=oE ho (by kernel_rfl);have hd:o.dst=some 32:=lH ho (by kernel_rfl);have h3:lP l 3:=aG hr (d:=3) (by kernel_rfl);obtain⟨v,hv,h36⟩:=H.fs 3 h3 (aX6 hu);refine bU ho (gB ho (by kernel_rfl)) (sI hop ?_);rw[hd,ev' h36];exact H.quiet (i:=4) (by decide) hu (Br _ _) ⟨fH h3,v,dE (by rw[H.ts];decide),fun _=>hv⟩
theorem aEg(H:CK w0 bf kd l a w)(hr:5∈Region.ready .any iM l):wpOp prog iM Q 5 (CK w0 bf kd (l.setIfInBounds 5 true)) a w:=by
 obtain⟨hu,o,ho,_⟩:=mem_ready.1 hr;have hop:o.op=.extract (.tmp 32) 0:=oE ho (by kernel_rfl);have hd:o.dst=some 37:=lH ho (by kernel_rfl);have h4:lP l 4:=aG hr (d:=4) (by kernel_rfl);obtain⟨_,v,h32,hv⟩:=H.fs 4 h4;refine bU ho (gB ho (by kernel_rfl)) (Gr (v:=v) (w':=w) ?_ ?_)
 ·simp[execOp,hop,h32,go_sem]
 ·rw[hd];exact H.quiet (i:=5) (by decide) hu (Br _ _) ⟨fH h4,fun _=>⟨v,hv (aX6 hu),dE (by rw[H.ts];decide)⟩⟩
theorem aEf(H:CK w0 bf kd l a w)(hr:6∈Region.ready .any iM l):wpOp prog iM Q 6 (CK w0 bf kd (l.setIfInBounds 6 true)) a w:=by
 obtain⟨hu,o,ho,_⟩:=mem_ready.1 hr;have hop:o.op=.extract (.tmp 32) 1:=oE ho (by kernel_rfl);have hd:o.dst=some 38:=lH ho (by kernel_rfl);have h4:lP l 4:=aG hr (d:=4) (by kernel_rfl);obtain⟨_,v,h32,_⟩:=H.fs 4 h4;refine bU ho (gB ho (by kernel_rfl)) (Gr (v:=.bool (aX.find? fun p=>p.1==kd).isSome) (w':=w) ?_ ?_)
 ·simp[execOp,hop,h32,go_sem]
 ·rw[hd];exact H.quiet (i:=6) (by decide) hu (Br _ _) (dE (by rw[H.ts];decide))
theorem aEe(H:CK w0 bf kd l a w)(hr:7∈Region.ready .any iM l):wpOp prog iM Q 7 (CK w0 bf kd (l.setIfInBounds 7 true)) a w:=by
 obtain⟨hu,o,ho,_⟩:=mem_ready.1 hr;have hop:o.op=.alloc 62:=oE ho (by kernel_rfl);have hd:o.dst=some 3:=lH ho (by kernel_rfl);refine bU ho (gB ho (by kernel_rfl)) (Gr (v:=.pointer (some ⟨w.heap.size,0,none⟩)) (w':=w.alloc (.cells ZK 62)) ?_ ?_)
 ·simp[execOp,hop,go_sem,ZK]
 ·rw[hd];exact H.quiet (i:=7) (by decide) hu (aB _ _) (fun _=>⟨w.heap.size,dE (by rw[H.ts];decide),H.hb.size,aP.new0 w ZK 62⟩)
theorem aEd(H:CK w0 bf kd l a w)(hr:8∈Region.ready .any iM l):wpOp prog iM Q 8 (CK w0 bf kd (l.setIfInBounds 8 true)) a w:=by
 obtain⟨hu,o,ho,_⟩:=mem_ready.1 hr;have hop:o.op=.store 62 (.tmp 3) (.tmp 37):=oE ho (by kernel_rfl);have hd:o.dst=none:=lH ho (by kernel_rfl);have h7:lP l 7:=aG hr (d:=7) (by kernel_rfl);have h5:lP l 5:=aG hr (d:=5) (by kernel_rfl);obtain⟨h4,F5⟩:=H.fs 5 h5;obtain⟨h3,F4⟩:=H.fs 4 h4;obtain⟨v,hv,h37⟩:=F5 (aX6 hu);obtain⟨bk,hk3,hlo,hkb⟩:=H.fs 7 h7 (aX6 hu);obtain⟨cs,rfl,hsz,hone⟩:=hv.cells;have h8:lP (l.setIfInBounds 8 true) 8:=zE (by rw[H.sz];decide);refine bU ho (gB ho (by kernel_rfl)) (wp_store_row 62 _ _ hop bk cs (ev' hk3) (ev' h37) 62 ZK hkb.2 (by rw[hsz];kernel_rfl) (by rw[hsz];rfl) hone ?_);rw[hd];have ht:(a.put none undef).tmps=a.tmps:=rfl;refine⟨by simpa using H.sz,H.ts,H.df,H.t1,below_setRow H.hb hlo cs,fun j hj=>?_⟩
 by_cases e:j=8
 ·subst e;exact⟨fH h7,bk,cs,hk3,hlo,⟨by simp[World.setRow];exact hkb.1,setRow_heap _ _ _ _ _ _ hkb.2⟩,hv.setRow hkb rfl⟩
 ·have hj':=mQ hj e;have F:=H.fs j hj'
  match j,e,F with
  |0,_,_=>exact fun h=>absurd (fH h3) h
  |1,_,F=>exact F
  |2,_,F=>exact F
  |3,_,_=>exact fun h=>absurd (fH h4) h
  |4,_,F=>obtain⟨h0,v,k1,_⟩:=F;exact⟨fH h0,v,k1,fun h=>absurd (fH h5) h⟩
  |5,_,F=>exact⟨fH F.1,fun h=>absurd h8 h⟩
  |6,_,F=>exact F
  |7,_,_=>exact fun h=>absurd h8 h
  |8,e,_=>exact absurd rfl e
  |9,_,F=>exact F
  |n+10,_,_=>trivial
theorem aEc(H:CK w0 bf kd l a w)(hr:9∈Region.ready .any iM l):wpOp prog iM Q 9 (CK w0 bf kd (l.setIfInBounds 9 true)) a w:=by
 obtain⟨hu,o,ho,_⟩:=mem_ready.1 hr;have hop:o.op=.assign (.tmp 38):=oE ho (by kernel_rfl);have hd:o.dst=some 4:=lH ho (by kernel_rfl);have h38:a.tmps[38]?=some (.bool (aX.find? fun p=>p.1==kd).isSome):=H.fs 6 (aG hr (d:=6) (by kernel_rfl));refine bU ho (gB ho (by kernel_rfl)) (Gt hop ?_);rw[hd,ev' h38];exact H.quiet (i:=9) (by decide) hu (Br _ _) (dE (by rw[H.ts];decide))
theorem jZ:iM.size=10:=by kernel_rfl
theorem Zw:((List.range 10).all fun i=>((iM[i]?).map fun o=>o.after.all fun e=>!Region.binds .any e || decide (e.on<i)).getD true)=true:=by kernel_rfl
theorem Ql{i:Nat}(hc:∀W,Below w0.heap.size w0 W->W.cell? ⟨bf,4,none⟩=some (.int .i64 kd))(H:CK w0 bf kd l a w)(hr:i∈Region.ready .any iM l):wpOp prog iM Q i (CK w0 bf kd (l.setIfInBounds i true)) a w:=by
 have hi:i<10:=by
  obtain⟨_,o,ho,_⟩:=mem_ready.1 hr;have:=(Ai.1 ho).1;rw[jZ] at this;exact this
 match i,hi,hr with
 |0,_,hr=>exact aEl H hr
 |1,_,hr=>exact aEk H hr
 |2,_,hr=>exact aEj hc H hr
 |3,_,hr=>exact aEi H hr
 |4,_,hr=>exact aEh H hr
 |5,_,hr=>exact aEg H hr
 |6,_,hr=>exact aEf H hr
 |7,_,hr=>exact aEe H hr
 |8,_,hr=>exact aEd H hr
 |9,_,hr=>exact aEc H hr
 |n+10,hi,_=>exact absurd hi (by omega)
theorem aN{l:List Value}{n:Nat}(h:l.length=n+1):∃x r,l=x::r/\r.length=n:=by
 cases l with
 |nil=>cases h
 |cons x r=>exact⟨x,r,rfl,by simpa using h⟩
theorem aEm(t:Array Value)(h:t.size=60):∃x0 x1 x2 x3 x4 x5 x6 x7 x8 x9 x10 x11 x12 x13 x14 x15 x16 x17 x18 x19 x20 x21 x22 x23 x24 x25 x26 x27 x28 x29 x30 x31 x32 x33 x34 x35 x36 x37 x38 x39 x40 x41 x42 x43 x44 x45 x46 x47 x48 x49 x50 x51 x52 x53 x54 x55 x56 x57 x58 x59,t=#[x0,x1,x2,x3,x4,x5,x6,x7,x8,x9,x10,x11,x12,x13,x14,x15,x16,x17,x18,x19,x20,x21,x22,x23,x24,x25,x26,x27,x28,x29,x30,x31,x32,x33,x34,x35,x36,x37,x38,x39,x40,x41,x42,x43,x44,x45,x46,x47,x48,x49,x50,x51,x52,x53,x54,x55,x56,x57,x58,x59]:=by
 obtain⟨l0⟩:=t;have h0:l0.length=60:=h;clear h;obtain⟨x0,l1,rfl,h1⟩:=aN h0;obtain⟨x1,l2,rfl,h2⟩:=aN h1;obtain⟨x2,l3,rfl,h3⟩:=aN h2;obtain⟨x3,l4,rfl,h4⟩:=aN h3;obtain⟨x4,l5,rfl,h5⟩:=aN h4;obtain⟨x5,l6,rfl,h6⟩:=aN h5;obtain⟨x6,l7,rfl,h7⟩:=aN h6;obtain⟨x7,l8,rfl,h8⟩:=aN h7;obtain⟨x8,l9,rfl,h9⟩:=aN h8;obtain⟨x9,l10,rfl,h10⟩:=aN h9;obtain⟨x10,l11,rfl,h11⟩:=aN h10;obtain⟨x11,l12,rfl,h12⟩:=aN h11;obtain⟨x12,l13,rfl,h13⟩:=aN h12;obtain⟨x13,l14,rfl,h14⟩:=aN h13;obtain⟨x14,l15,rfl,h15⟩:=aN h14;obtain⟨x15,l16,rfl,h16⟩:=aN h15;obtain⟨x16,l17,rfl,h17⟩:=aN h16;obtain⟨x17,l18,rfl,h18⟩:=aN h17;obtain⟨x18,l19,rfl,h19⟩:=aN h18;obtain⟨x19,l20,rfl,h20⟩:=aN h19;obtain⟨x20,l21,rfl,h21⟩:=aN h20;obtain⟨x21,l22,rfl,h22⟩:=aN h21;obtain⟨x22,l23,rfl,h23⟩:=aN h22;obtain⟨x23,l24,rfl,h24⟩:=aN h23;obtain⟨x24,l25,rfl,h25⟩:=aN h24;obtain⟨x25,l26,rfl,h26⟩:=aN h25;obtain⟨x26,l27,rfl,h27⟩:=aN h26;obtain⟨x27,l28,rfl,h28⟩:=aN h27;obtain⟨x28,l29,rfl,h29⟩:=aN h28;obtain⟨x29,l30,rfl,h30⟩:=aN h29;obtain⟨x30,l31,rfl,h31⟩:=aN h30;obtain⟨x31,l32,rfl,h32⟩:=aN h31;obtain⟨x32,l33,rfl,h33⟩:=aN h32;obtain⟨x33,l34,rfl,h34⟩:=aN h33;obtain⟨x34,l35,rfl,h35⟩:=aN h34;obtain⟨x35,l36,rfl,h36⟩:=aN h35;obtain⟨x36,l37,rfl,h37⟩:=aN h36;obtain⟨x37,l38,rfl,h38⟩:=aN h37;obtain⟨x38,l39,rfl,h39⟩:=aN h38;obtain⟨x39,l40,rfl,h40⟩:=aN h39;obtain⟨x40,l41,rfl,h41⟩:=aN h40;obtain⟨x41,l42,rfl,h42⟩:=aN h41;obtain⟨x42,l43,rfl,h43⟩:=aN h42;obtain⟨x43,l44,rfl,h44⟩:=aN h43;obtain⟨x44,l45,rfl,h45⟩:=aN h44;obtain⟨x45,l46,rfl,h46⟩:=aN h45;obtain⟨x46,l47,rfl,h47⟩:=aN h46;obtain⟨x47,l48,rfl,h48⟩:=aN h47;obtain⟨x48,l49,rfl,h49⟩:=aN h48;obtain⟨x49,l50,rfl,h50⟩:=aN h49;obtain⟨x50,l51,rfl,h51⟩:=aN h50;obtain⟨x51,l52,rfl,h52⟩:=aN h51;obtain⟨x52,l53,rfl,h53⟩:=aN h52;obtain⟨x53,l54,rfl,h54⟩:=aN h53;obtain⟨x54,l55,rfl,h55⟩:=aN h54;obtain⟨x55,l56,rfl,h56⟩:=aN h55;obtain⟨x56,l57,rfl,h57⟩:=aN h56;obtain⟨x57,l58,rfl,h58⟩:=aN h57;obtain⟨x58,l59,rfl,h59⟩:=aN h58;obtain⟨x59,l60,rfl,h60⟩:=aN h59;obtain rfl:=List.length_eq_zero_iff.1 h60;exact⟨x0,x1,x2,x3,x4,x5,x6,x7,x8,x9,x10,x11,x12,x13,x14,x15,x16,x17,x18,x19,x20,x21,x22,x23,x24,x25,x26,x27,x28,x29,x30,x31,x32,x33,x34,x35,x36,x37,x38,x39,x40,x41,x42,x43,x44,x45,x46,x47,x48,x49,x50,x51,x52,x53,x54,x55,x56,x57,x58,x59,rfl⟩
theorem Gy(hc:∀W,Below w0.heap.size w0 W->W.cell? ⟨bf,4,none⟩=some (.int .i64 kd))(hsz:a.tmps.size=60)(hdf:a.defers=[])(ht1:a.tmps[1]?=some (.pointer (some ⟨bf,0,none⟩)))(hb:Below w0.heap.size w0 w)
  (hQ:∀(t:Array Value) (W:World) (bk:Nat) (cs:Array Value),t.size=60->t[1]?=some (.pointer (some ⟨bf,0,none⟩))->t[3]?=some (.pointer (some ⟨bk,0,none⟩))->t[4]?=some (.bool (aX.find? fun p=>p.1==kd).isSome)->w0.heap.size<=bk->aP W bk cs 62->Jm W (aX.find? fun p=>p.1==kd) (.agg cs)->Below w0.heap.size w0 W->Q .normal { tmps:=t,defers:=[] } W) :
  (Code.region 11 iM true).wp prog Q a w:=by
 refine wp_region_any (by kernel_rfl) ?_;have hrep:Array.replicate iM.size false=Array.replicate 10 false:=by rw[jZ]
 have hno:∀i,¬ lP (Array.replicate 10 false) i:=fun i=>by
  unfold lP;rw[Array.getD_eq_getD_getElem?,Array.getElem?_replicate];split <;> simp
 refine uQ (CK w0 bf kd) (fun l a w hi hr=>?_) (fun l a w i hi hr=>Ql hc hi hr) _ _ _ _ ?_ ?_
 ·have hall:∀i,i<10->lP l i:=fun i hlt=>by
   have:=xM (by rw[hi.sz,jZ]) (fun i o ho e he hbd=>?_) hr i (by rw[jZ];exact hlt)
   ·unfold lP;rw[Array.getD_eq_getD_getElem?,Array.getElem?_eq_getElem (by rw[hi.sz];exact hlt)] at this ⊢;exact this
   ·have hl:=(Ai.1 ho).1;rw[jZ] at hl;have h1:=List.all_eq_true.1 Zw i (List.mem_range.2 hl);rw[ho] at h1;simp only[Option.map_some,Option.getD_some,Array.all_eq_true,Bool.or_eq_true,Bool.not_eq_true',decide_eq_true_eq] at h1;obtain⟨k,hk,rfl⟩:=Array.getElem_of_mem he;rcases h1 k hk with h2|h2
    ·rw[hbd] at h2;cases h2
    ·exact h2
  obtain⟨_,bk,cs,k1,k2,k3,k4⟩:=hi.fs 8 (hall 8 (by decide));have k9:=hi.fs 9 (hall 9 (by decide));obtain⟨t,d⟩:=a;have hd:d=[]:=hi.df;subst hd;exact hQ t w bk cs hi.ts hi.t1 k1 k9 k2 k3 k4 hi.hb
 ·rw[jZ];unfold jC;refine Nat.le_trans List.countP_le_length ?_;rw[List.length_range,jZ];exact Nl _
 ·rw[hrep];exact⟨by simp,hsz,hdf,ht1,aD hb 1,fun j hj=>absurd hj (hno j)⟩
end
end
end Go.Proofs.YthjekgfoidmagaaGreatDoor
