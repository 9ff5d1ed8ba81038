/- Class Cmp Flow -/
import Derived.Test.YtbcebibkpfklnaaGreatDoorJCheck
import Derived.Test.YtbcebibkpfklnaaGreatDoorJView
import Derived.Test.YtbcebibkpfklnaaGreatDoorJDate
import Derived.Test.YtbcebibkpfklnaaGreatDoorJWith
import Derived.WalkKit
import Derived.Sort.Walk0
set_option maxHeartbeats 16000000
set_option maxRecDepth 100000
namespace Go.Proofs.YtbcebibkpfklnaaGreatDoor
section
open Go Go.RowKit Num
theorem wpList_val {P:Program} {ops:Array Oper} {rest:List Oper} {o:Oper} {a:Act} {w w':World} {Q:Exit→Act→World→Prop} (hg:o.guard=none) (v:Value) (hrun:(execOp a.eval o).run P w = .ok (.value v) w') (hK:wpList P ops Q rest (a.put o.dst v) w'):wpList P ops Q (o :: rest) a w:=by
 refine wpList_plain hg fun K' hK' => ?_
 unfold Oper.wp
 rw [hrun]
 exact hK' _ _ hK
theorem wpList_lookup_ok {P:Program} {ops:Array Oper} {rest:List Oper} {o:Oper} {a:Act} {w:World} {Q:Exit→Act→World→Prop} (hg:o.guard=none) (t:TypeId) (m x:Operand) (ok:Bool) (hop:o.op = .lookup t m x ok) (v:Value) (hrun:(Instr.lookup t (a.eval m) (a.eval x) ok).run P w = .ok v w) (hK:wpList P ops Q rest (a.put o.dst v) w):wpList P ops Q (o :: rest) a w :=
 wpList_val hg v (by simp [execOp,hop,hrun,Result.andThen]) hK
theorem wpList_store_new {P:Program} {ops:Array Oper} {rest:List Oper} {o:Oper} {a:Act} {w:World} {Q:Exit→Act→World→Prop} (hgd:o.guard=none) (ty:TypeId) (x y:Operand) (ho:o.op = .store ty x y) (g:Nat) (hx:a.eval x = .pointer (some ⟨g,0,none⟩)) (cells:Array Value) (hy:a.eval y = .agg cells)
  {t:TypeId} {old:Array Value} (hg:w.heap[g]? = some (.cells old t (0,0))) (hi:(P.info? ty).map (·.size)=some cells.size) (hold:old.size=cells.size) (h1:cells.all (·.oneCell')=true)
  (h:∀ w',Box w' g cells t→(∀ B,B≤g→Below B w w')→w'.heap.size=w.heap.size→wpList P ops Q rest (a.put o.dst undef) w'):wpList P ops Q (o :: rest) a w :=
 wpList_store_row hgd ty x y ho g cells hx hy t old hg hi hold h1 (h _ ⟨by simp [World.setRow];exact (Array.getElem?_eq_some_iff.1 hg).1,setRow_heap _ _ _ _ _ _ hg⟩ (fun B hB=>below_setRow (Below.refl _ _) hB _) (by simp [World.setRow]))
theorem VOk.cls {w:World} {cs:Array Value} {k:Int} (h:VOk w (kindList.find? fun p=>p.1 == k) (.agg cs)):cs[1]? = some (.int .i64 (clsOf k)):=by
 unfold clsOf
 cases hq:kindList.find? fun p=>p.1 == k with
 | none =>
  rw [hq] at h
  have h:Value.agg cs = .agg ZK:=h
  injection h with h
  subst h
  rfl
 | some q =>
  rw [hq] at h
  obtain ⟨mv,e,_⟩:=h
  injection e with e
  subst e
  rfl
def clsErr (k:Int):Int:=if (kindList.find? fun p=>p.1 == k).isSome=true then 0 else 7
theorem cls_none {k:Int} (h:(kindList.find? fun p=>p.1 == k).isSome=false):clsOf k=0:=by
 unfold clsOf
 cases hq:kindList.find? fun p=>p.1 == k with
 | none=>rfl
 | some q=>rw [hq] at h;cases h
theorem class_any (k:Int) (w:World) :
  Calls Tryz.prog 78 #[.int .i64 k] w fun e w'=>e = .returned (.tuple #[.int .i64 (clsOf k),.int .i64 (clsErr k)])∧Below w.heap.size w w':=by
 obtain ⟨cl,hcl⟩:∃ cl,cl=clsOf k:=⟨_,rfl⟩
 obtain ⟨fd,hfd⟩:∃ fd,fd=(kindList.find? fun p=>p.1 == k).isSome:=⟨_,rfl⟩
 have HN:Hid (fd=false→cl=0):=fun h=>by rw [hcl];exact cls_none (by rw [← hfd];exact h)
 have HER:Hid (clsErr k=if fd=true then 0 else 7):=by show _=_;rw [hfd];rfl
 have HCL:=Lib.hid hcl
 have HFD:=Lib.hid hfd
 rw [← hcl]
 clear hcl hfd
 generalize clsErr k=er at *
 go_enter Tryz.func78,Tryz.ntmps78
 go_wp2_with fail
 refine (kinds_any _).mono ?_
 rintro e w1 ⟨bm,rfl,hm,hb⟩
 obtain ⟨v,hv,hrun⟩:=look_kind hm k
 obtain ⟨cs,rfl,hsz,hone⟩:=hv.cells
 have hcls:=hv.cls
 rw [← HCL.out] at hcls
 rw [← HFD.out] at hrun
 have HR:=Lib.hid hrun
 have HB:=Lib.hid hb
 have HSZ:Hid ((Tryz.prog.info? 87).map (·.size)=some cs.size):=by show _=_;rw [hsz];exact kindSize
 have HONE:=Lib.hid hone
 have HS17:Hid (ZK.size=cs.size):=hsz.symm
 have HNEW:=Lib.hid (heap_alloc_new w1 (.cells ZK 87))
 have HC1:=Lib.hid hcls
 have HBa:Hid (Below w.heap.size w (w1.alloc (.cells ZK 87))):=below_up hb (below_alloc _ _)
 clear hrun hv hm hb hone hsz hcls HFD HCL
 cases fd with
 | true =>
  obtain rfl:=HER.out
  clear HN HER
  go_wp2_with (first | (refine wpList_lookup_ok rfl 89 _ _ true rfl _ HR.out ?_) | (refine wpList_store_new rfl 87 _ _ rfl w1.heap.size rfl cs rfl HNEW.out HSZ.out HS17.out HONE.out ?_;intro w2 k2 b2 _;have HB2:=Lib.hid (HBa.out.trans (b2 _ HB.out.size));have c1:=(k2.cell 1).trans HC1.out;clear k2 b2))
  go_ret2
  exact ⟨rfl,HB2.out⟩
 | false =>
  obtain rfl:=HN.out rfl
  obtain rfl:=HER.out
  clear HN HER
  go_wp2_with (first | (refine wpList_lookup_ok rfl 89 _ _ true rfl _ HR.out ?_) | (refine wpList_store_new rfl 87 _ _ rfl w1.heap.size rfl cs rfl HNEW.out HSZ.out HS17.out HONE.out ?_;intro w2 k2 b2 _;have HB2:=Lib.hid (HBa.out.trans (b2 _ HB.out.size));have c1:=(k2.cell 1).trans HC1.out;clear k2 b2))
  go_ret2
  exact ⟨rfl,HB2.out⟩
end
section
open Go Go.RowKit Num
theorem nanD (x:Int) (w:World):Calls Tryz.prog 107 #[.int .i64 x] w fun e w'=>e = .returned (.bool false)∧w'=w:=by
 go_enter Tryz.func107,Tryz.ntmps107
 go_wp2
 go_ret
 exact ⟨by simp,rfl⟩
theorem nanI (x:Int) (w:World):Calls Tryz.prog 108 #[.int .i64 x] w fun e w'=>e = .returned (.bool false)∧w'=w:=by
 go_enter Tryz.func108,Tryz.ntmps108
 go_wp2
 go_ret
 exact ⟨by simp,rfl⟩
theorem nanS (x:ByteArray) (w:World):Calls Tryz.prog 109 #[.string x] w fun e w'=>e = .returned (.bool false)∧w'=w:=by
 go_enter Tryz.func109,Tryz.ntmps109
 go_wp2
 go_ret
 exact ⟨by simp,rfl⟩
theorem cmpDay_any (x y:Int) (w:World):Calls Tryz.prog 80 #[.int .i64 x,.int .i64 y] w fun e w'=>e = .returned (.int .i64 (cmpI x y))∧w'=w:=by
 have HN:Hid (∀ z W,Calls Tryz.prog 107 #[.int .i64 z] W fun e w'=>e = .returned (.bool false)∧w'=W):=nanD
 unfold cmpI
 by_cases h1:x < y
 ·rw [if_pos h1]
  go_enter Tryz.func80,Tryz.ntmps80
  go_wp2_with (refine (HN.out _ _).mono ?_;rintro e w' ⟨rfl,rfl⟩)
  go_ret
  exact ⟨rfl,rfl⟩
 ·rw [if_neg h1]
  by_cases h2:y < x
  ·rw [if_pos h2]
   go_enter Tryz.func80,Tryz.ntmps80
   go_wp2_with (refine (HN.out _ _).mono ?_;rintro e w' ⟨rfl,rfl⟩)
   go_ret
   exact ⟨rfl,rfl⟩
  ·rw [if_neg h2]
   go_enter Tryz.func80,Tryz.ntmps80
   go_wp2_with (refine (HN.out _ _).mono ?_;rintro e w' ⟨rfl,rfl⟩)
   go_ret
   exact ⟨rfl,rfl⟩
theorem cmpInt_any (x y:Int) (w:World):Calls Tryz.prog 81 #[.int .i64 x,.int .i64 y] w fun e w'=>e = .returned (.int .i64 (cmpI x y))∧w'=w:=by
 have HN:Hid (∀ z W,Calls Tryz.prog 108 #[.int .i64 z] W fun e w'=>e = .returned (.bool false)∧w'=W):=nanI
 unfold cmpI
 by_cases h1:x < y
 ·rw [if_pos h1]
  go_enter Tryz.func81,Tryz.ntmps81
  go_wp2_with (refine (HN.out _ _).mono ?_;rintro e w' ⟨rfl,rfl⟩)
  go_ret
  exact ⟨rfl,rfl⟩
 ·rw [if_neg h1]
  by_cases h2:y < x
  ·rw [if_pos h2]
   go_enter Tryz.func81,Tryz.ntmps81
   go_wp2_with (refine (HN.out _ _).mono ?_;rintro e w' ⟨rfl,rfl⟩)
   go_ret
   exact ⟨rfl,rfl⟩
  ·rw [if_neg h2]
   go_enter Tryz.func81,Tryz.ntmps81
   go_wp2_with (refine (HN.out _ _).mono ?_;rintro e w' ⟨rfl,rfl⟩)
   go_ret
   exact ⟨rfl,rfl⟩
theorem cmpStr_any (x y:List UInt8) (w:World):Calls Tryz.prog 82 #[.string ⟨x.toArray⟩,.string ⟨y.toArray⟩] w fun e w'=>e = .returned (.int .i64 (cmpL x y))∧w'=w:=by
 have HN:Hid (∀ z W,Calls Tryz.prog 109 #[.string z] W fun e w'=>e = .returned (.bool false)∧w'=W):=nanS
 have b1:Op.bytesLess x y=decide (x < y):=bytesLess_eq x y
 have b2:Op.bytesLess y x=decide (y < x):=bytesLess_eq y x
 unfold cmpL
 by_cases h1:x < y
 ·rw [if_pos h1]
  rw [decide_eq_true h1] at b1
  go_enter Tryz.func82,Tryz.ntmps82
  go_wp2_with (refine (HN.out _ _).mono ?_;rintro e w' ⟨rfl,rfl⟩)
  go_ret
  exact ⟨rfl,rfl⟩
 ·rw [if_neg h1]
  rw [decide_eq_false h1] at b1
  have b3:(x == y) = !decide (y < x):=by
   by_cases h:x=y
   ·subst h;simp [List.lt_irrefl]
   ·have:y < x:=by
     rcases Decidable.em (y < x) with h' | h'
     ·exact h'
     ·exact absurd (List.le_antisymm h' h1) h
    simp [h,this]
  by_cases h2:y < x
  ·rw [if_pos h2]
   rw [decide_eq_true h2] at b2 b3
   have b3:(x == y)=false:=b3
   go_enter Tryz.func82,Tryz.ntmps82
   go_wp2_with (refine (HN.out _ _).mono ?_;rintro e w' ⟨rfl,rfl⟩)
   go_ret
   exact ⟨rfl,rfl⟩
  ·rw [if_neg h2]
   rw [decide_eq_false h2] at b2 b3
   have b3:(x == y)=true:=b3
   go_enter Tryz.func82,Tryz.ntmps82
   go_wp2_with (refine (HN.out _ _).mono ?_;rintro e w' ⟨rfl,rfl⟩)
   go_ret
   exact ⟨rfl,rfl⟩
def or3 (x y z:Int):Int:=if x ≠ 0 then x else if y ≠ 0 then y else z
def OrAt (x y z:Int) (w wr:World) (k:Nat):Prop:=wr=w∧(k=0∨(k=1∧x=0)∨(k=2∧x=0∧y=0)∨(k=3∧x=0∧y=0∧z=0))
theorem or3_any (x y z:Int) (g:Nat) (w:World) (hb:Box w g #[.int .i64 x,.int .i64 y,.int .i64 z] 3):Calls Tryz.prog 79 #[.slice (some ⟨g,0,none⟩) 3 3] w fun e w'=>e = .returned (.int .i64 (or3 x y z))∧w'=w:=by
 have c0:=(hb.cell 0).trans (show _=some (.int .i64 x) from rfl)
 have c1:=(hb.cell 1).trans (show _=some (.int .i64 y) from rfl)
 have c2:=(hb.cell 2).trans (show _=some (.int .i64 z) from rfl)
 clear hb
 have HR:Hid ((x ≠ 0→or3 x y z=x)∧(x=0→y ≠ 0→or3 x y z=y)∧(x=0→y=0→or3 x y z=z)):=⟨fun h=>if_pos h,fun h1 h2=>by unfold or3;rw [if_neg (by simpa using h1),if_pos h2],fun h1 h2=>by unfold or3;rw [if_neg (by simpa using h1),if_neg (by simpa using h2)]⟩
 generalize or3 x y z=r at *
 go_enter Tryz.func79,Tryz.ntmps79
 go_wp2_with fail
 go_loopw [8] (fun iv wr => ∃ k:Nat,iv = .int .i64 k∧OrAt x y z w wr k) (fun iv _=>3 - (intOf iv).toNat)
 case atStart=>exact ⟨0,rfl,rfl,.inl rfl⟩
 case round =>
  obtain ⟨k,rfl,rfl,H⟩:=hrel
  rcases H with rfl | ⟨rfl,rfl⟩ | ⟨rfl,rfl,rfl⟩ | ⟨rfl,rfl,rfl,rfl⟩
  ·by_cases h:x=0
   ·subst h
    go_wp2
    go_roundw
    case rel=>exact ⟨1,by go_num,rfl,.inr (.inl ⟨rfl,rfl⟩)⟩
    case measure=>simp [intOf]
   ·have h':(x == 0)=false:=by simpa using h
    have HV:=Lib.hid (HR.out.1 h)
    go_wp2
    go_ret
    exact ⟨by rw [HV.out];rfl,rfl⟩
  ·by_cases h:y=0
   ·subst h
    go_wp2
    go_roundw
    case rel=>exact ⟨2,by go_num,rfl,.inr (.inr (.inl ⟨rfl,rfl,rfl⟩))⟩
    case measure=>simp [intOf]
   ·have h':(y == 0)=false:=by simpa using h
    have HV:=Lib.hid (HR.out.2.1 rfl h)
    go_wp2
    go_ret
    exact ⟨by rw [HV.out];rfl,rfl⟩
  ·by_cases h:z=0
   ·subst h
    go_wp2
    go_roundw
    case rel=>exact ⟨3,by go_num,rfl,.inr (.inr (.inr ⟨rfl,rfl,rfl,rfl⟩))⟩
    case measure=>simp [intOf]
   ·have h':(z == 0)=false:=by simpa using h
    have HV:=Lib.hid (HR.out.2.2 rfl rfl)
    go_wp2
    go_ret
    exact ⟨by rw [HV.out];rfl,rfl⟩
  ·have HV:=Lib.hid (HR.out.2.2 rfl rfl)
   go_wp2
   go_ret
   exact ⟨by rw [HV.out];rfl,rfl⟩
end
section
open Go Go.RowKit
def gv (b:Bool) (v:Value):Value:=if b=true then v else undef
def dstsOf (ops:Array Oper):List (Nat × Nat):=(List.range ops.size).filterMap fun i=>(ops[i]?).bind fun o=>o.dst.map fun s=>(i,s)
theorem dstsOf_mem {ops:Array Oper} {i s:Nat}:(i,s)∈dstsOf ops ↔ ∃ o,ops[i]? = some o∧o.dst=some s:=by
 unfold dstsOf
 rw [List.mem_filterMap]
 constructor
 ·rintro ⟨k,_,h⟩
  cases ho:ops[k]? with
  | none=>rw [ho] at h;cases h
  | some o =>
   rw [ho] at h
   simp only [Option.bind_some,Option.map_eq_some_iff] at h
   obtain ⟨s',h1,h2⟩:=h
   injection h2 with e1 e2
   subst e1 e2
   exact ⟨o,ho,h1⟩
 ·rintro ⟨o,ho,h⟩
  exact ⟨i,List.mem_range.2 (Array.getElem?_eq_some_iff.1 ho).1,by rw [ho];simp [h]⟩
def fwOps (md:Region.Mode) (ops:Array Oper):Bool:=(List.range ops.size).all fun i=>((ops[i]?).map fun o=>o.after.all fun e => !Region.binds md e || decide (e.on < i)).getD true
def layT (f:Nat→Value) (ds:List (Nat × Nat)) (t:Array Value):Array Value:=ds.foldl (fun t p=>t.setIfInBounds p.2 (f p.1)) t
theorem layT_not (f:Nat→Value):∀ (ds:List (Nat × Nat)) (t:Array Value) (x:Nat),x ∉ ds.map Prod.snd→(layT f ds t)[x]? = t[x]?
 | [],_,_,_=>rfl
 | p :: r,t,x,h=>by
  simp only [List.map_cons,List.mem_cons,not_or] at h
  have:=layT_not f r (t.setIfInBounds p.2 (f p.1)) x h.2
  show (layT f r (t.setIfInBounds p.2 (f p.1)))[x]? = _
  rw [this,Array.getElem?_setIfInBounds_ne (Ne.symm h.1)]
theorem layT_at (f:Nat→Value):∀ (ds:List (Nat × Nat)) (t:Array Value),(ds.map Prod.snd).Nodup→(∀ p,p∈ds→p.2 < t.size)→∀ i s,(i,s)∈ds→(layT f ds t)[s]? = some (f i)
 | [],_,_,_,i,s,h=>by cases h
 | p :: r,t,hn,hs,i,s,h=>by
  rw [List.map_cons,List.nodup_cons] at hn
  show (layT f r (t.setIfInBounds p.2 (f p.1)))[s]? = _
  rcases List.mem_cons.1 h with e | h
  ·subst e
   rw [layT_not f r _ s hn.1]
   have:=hs (i,s) (List.mem_cons_self)
   simp only at this
   simp [this]
  ·exact layT_at f r _ hn.2 (fun q hq=>by rw [Array.size_setIfInBounds];exact hs q (List.mem_cons_of_mem _ hq)) i s h
section
variable {Γ:Type} {P:Program} {ops:Array Oper} {md:Region.Mode} {ds:List (Nat × Nat)} {val:Γ→Nat→Value} {G:Γ→Array Bool→World→Prop} {t0:Array Value} {d0:List Deferred} {Q:Exit→Act→World→Prop} {n:Nat}
structure Flow (ops:Array Oper) (md:Region.Mode) (ds:List (Nat × Nat)) (val:Γ→Nat→Value) (G:Γ→Array Bool→World→Prop) (t0:Array Value) (d0:List Deferred) (γ:Γ) (l:Array Bool) (a:Act) (w:World):Prop where
 sz:l.size=ops.size
 ts:a.tmps.size=t0.size
 df:a.defers=d0
 lo:∀ x,x ∉ ds.map Prod.snd→a.tmps[x]? = t0[x]?
 vs:∀ i s,(i,s)∈ds→on' l i→a.tmps[s]? = some (val γ i)
 cl:∀ i o,ops[i]? = some o→on' l i→∀ e∈o.after,Region.binds md e=true→on' l e.on
 g:G γ l w
def FlowK (ops:Array Oper) (val:Γ→Nat→Value) (G:Γ→Array Bool→World→Prop) (γ:Γ) (l:Array Bool) (a:Act) (i:Nat) (a':Act) (w':World):Prop :=
 ∃ o v γ',ops[i]? = some o∧a'=a.put o.dst v∧v=val γ' i∧(∀ j,on' l j→val γ' j=val γ j)∧G γ' (l.setIfInBounds i true) w'
theorem Flow.step (hds:dstsOf ops=ds) (hnd:(ds.map Prod.snd).Nodup) (hlt:∀ p,p∈ds→p.2 < t0.size) {γ:Γ} {l:Array Bool} {a a':Act} {w w':World} {i:Nat} (H:Flow ops md ds val G t0 d0 γ l a w) (hr:i∈Region.ready md ops l)
  (h:FlowK ops val G γ l a i a' w'):∃ γ',Flow ops md ds val G t0 d0 γ' (l.setIfInBounds i true) a' w':=by
 obtain ⟨o,v,γ',ho,rfl,rfl,hst,hg⟩:=h
 obtain ⟨_,o',ho',hall⟩:=mem_ready.1 hr
 obtain rfl:o=o':=by rw [ho] at ho';exact Option.some.inj ho'
 have hmem:∀ s,o.dst=some s→(i,s)∈ds:=fun s hs=>by rw [← hds];exact dstsOf_mem.2 ⟨o,ho,hs⟩
 have hil:i < l.size:=by rw [H.sz];exact (Array.getElem?_eq_some_iff.1 ho).1
 refine ⟨γ',by simpa using H.sz,?_,?_,fun x hx => ?_,fun j s hj hon => ?_,fun j p hp hon e he hb => ?_,hg⟩
 ·cases hd:o.dst <;> simpa [Act.put] using H.ts
 ·cases hd:o.dst <;> simpa [Act.put] using H.df
 ·cases hd:o.dst with
  | none=>exact H.lo x hx
  | some s=>exact (put_ne' fun e=>hx (List.mem_map.2 ⟨_,hmem s hd,e.symm⟩)).trans (H.lo x hx)
 ·by_cases e:j=i
  ·subst e
   have:o.dst=some s:=by
    rw [← hds] at hj
    obtain ⟨o2,ho2,h2⟩:=dstsOf_mem.1 hj
    rw [ho] at ho2
    rw [Option.some.inj ho2]
    exact h2
   rw [this]
   exact put_same' (by rw [H.ts];exact hlt _ hj)
  ·have hjo:=on'_back hon e
   rw [hst j hjo]
   cases hd:o.dst with
   | none=>exact H.vs j s hj hjo
   | some s' =>
    refine (put_ne' fun es => ?_).trans (H.vs j s hj hjo)
    subst es
    have h1:=hmem s hd
    obtain ⟨k1,hk1,e1⟩:=List.mem_iff_getElem.1 hj
    obtain ⟨k2,hk2,e2⟩:=List.mem_iff_getElem.1 h1
    have hk1':k1 < (ds.map Prod.snd).length:=by simpa using hk1
    have hk2':k2 < (ds.map Prod.snd).length:=by simpa using hk2
    have:k1=k2:=(List.getElem_inj (h₀:=hk1') (h₁:=hk2') hnd).1 (by simp [e1,e2])
    subst this
    rw [e1] at e2
    injection e2 with e2
    exact e e2
 ·by_cases e1:j=i
  ·subst e1
   rw [ho] at hp
   obtain rfl:=Option.some.inj hp
   exact on'_set (hall e he hb)
  ·exact on'_set (H.cl j p hp (on'_back hon e1) e he hb)
theorem Flow.done (hds:dstsOf ops=ds) (hnd:(ds.map Prod.snd).Nodup) (hlt:∀ p,p∈ds→p.2 < t0.size) {γ:Γ} {l:Array Bool} {a:Act} {w:World} (H:Flow ops md ds val G t0 d0 γ l a w) (hall:∀ i,i < ops.size→on' l i):a = { tmps:=layT (val γ) ds t0,defers:=d0 }:=by
 obtain ⟨t,d⟩:=a
 have hd:d=d0:=H.df
 subst hd
 have:t=layT (val γ) ds t0:=by
  apply Array.ext_getElem?
  intro x
  by_cases hx:x∈ds.map Prod.snd
  ·obtain ⟨⟨i,s⟩,hm,rfl⟩:=List.mem_map.1 hx
   rw [layT_at (val γ) ds t0 hnd hlt i s hm]
   have hm':=hm
   rw [← hds] at hm'
   obtain ⟨o,ho,_⟩:=dstsOf_mem.1 hm'
   exact H.vs i s hm (hall i (Array.getElem?_eq_some_iff.1 ho).1)
  ·rw [layT_not _ _ _ _ hx]
   exact H.lo x hx
 rw [this]
theorem flow_all (hfw:fwOps md ops=true) {l:Array Bool} (hsz:l.size=ops.size) (hr:Region.ready md ops l=[]):∀ i,i < ops.size→on' l i:=fun i hlt=>by
 have:=all_listed' hsz (fun i o ho e he hbd => ?_) hr i hlt
 ·unfold on'
  rw [Array.getD_eq_getD_getElem?,Array.getElem?_eq_getElem (by rw [hsz];exact hlt)] at this ⊢
  exact this
 ·have hl:=(Array.getElem?_eq_some_iff.1 ho).1
  have h1:=List.all_eq_true.1 hfw i (List.mem_range.2 hl)
  rw [ho] at h1
  simp only [Option.map_some,Option.getD_some,Array.all_eq_true,Bool.or_eq_true,Bool.not_eq_true',decide_eq_true_eq] at h1
  obtain ⟨k,hk,rfl⟩:=Array.getElem_of_mem he
  rcases h1 k hk with h2 | h2
  ·rw [hbd] at h2;cases h2
  ·exact h2
theorem no_on (N i:Nat):¬ on' (Array.replicate N false) i:=by
 unfold on'
 rw [Array.getD_eq_getD_getElem?,Array.getElem?_replicate]
 split <;> simp
theorem unlisted_le (l:Array Bool):unlisted ops l≤ops.size:=by
 unfold unlisted
 refine Nat.le_trans List.countP_le_length ?_
 rw [List.length_range]
 exact Nat.le_refl _
theorem flow_start {γ:Γ} {a:Act} {w:World} (hdf:a.defers=d0) (ht:a.tmps=t0) (hg:G γ (Array.replicate ops.size false) w):Flow ops md ds val G t0 d0 γ (Array.replicate ops.size false) a w :=
 ⟨by simp,by rw [ht],hdf,fun x _=>by rw [ht],fun i _ _ h=>absurd h (no_on _ i),fun i _ _ h=>absurd h (no_on _ i),hg⟩
theorem flow_region (hm:P.follows .mixedOrders=true) (hds:dstsOf ops=ds) (hnd:(ds.map Prod.snd).Nodup) (hlt:∀ p,p∈ds→p.2 < t0.size) (hfw:fwOps .any ops=true)
  (hstep:∀ γ l a w i,Flow ops .any ds val G t0 d0 γ l a w→i∈Region.ready .any ops l→wpOp P ops Q i (FlowK ops val G γ l a i) a w)
  {id:Nat} {γ:Γ} {a:Act} {w:World} (hdf:a.defers=d0) (ht:a.tmps=t0) (hg:G γ (Array.replicate ops.size false) (w.drewN 1))
  (hQ:∀ γ l W,(∀ i,i < ops.size→on' l i)→G γ l W→Q .normal { tmps:=layT (val γ) ds t0,defers:=d0 } W):(Code.region id ops true).wp P Q a w:=by
 refine wp_region_any hm ?_
 refine wpAny_inv (fun l a w => ∃ γ,Flow ops .any ds val G t0 d0 γ l a w) (fun l a w hi hr => ?_) (fun l a w i hi hr => ?_) _ _ _ _ (unlisted_le _) ⟨γ,flow_start hdf ht hg⟩
 ·obtain ⟨γ,H⟩:=hi
  have hall:=flow_all hfw H.sz hr
  have:=H.done hds hnd hlt hall
  subst this
  exact hQ γ l w hall H.g
 ·obtain ⟨γ,H⟩:=hi
  exact wpOp_mono (fun a' w' h=>H.step hds hnd hlt hr h) (hstep γ l a w i H hr)
theorem flow_regionIn (hm:P.follows .mixedOrders=true) (hds:dstsOf ops=ds) (hnd:(ds.map Prod.snd).Nodup) (hlt:∀ p,p∈ds→p.2 < t0.size) (hfw:fwOps .any ops=true)
  (hstep:∀ γ l a w i,Flow ops .any ds val G t0 d0 γ l a w→i∈Region.ready .any ops l→wpOpIn Fence.wide n P ops Q i (FlowK ops val G γ l a i) a w)
  {id:Nat} {γ:Γ} {a:Act} {w:World} (hdf:a.defers=d0) (ht:a.tmps=t0) (hg:G γ (Array.replicate ops.size false) (w.drewN 1))
  (hQ:∀ γ l W,(∀ i,i < ops.size→on' l i)→G γ l W→Q .normal { tmps:=layT (val γ) ds t0,defers:=d0 } W):(Code.region id ops true).wpIn Fence.wide n P Q a w:=by
 refine wpIn_region_any hm ?_
 refine wpAnyIn_inv (fun l a w => ∃ γ,Flow ops .any ds val G t0 d0 γ l a w) (fun l a w hi hr => ?_) (fun l a w i hi hr => ?_) _ _ _ _ (unlisted_le _) ⟨γ,flow_start hdf ht hg⟩
 ·obtain ⟨γ,H⟩:=hi
  have hall:=flow_all hfw H.sz hr
  have:=H.done hds hnd hlt hall
  subst this
  exact hQ γ l w hall H.g
 ·obtain ⟨γ,H⟩:=hi
  exact wpOpIn_mono (fun a' w' h=>H.step hds hnd hlt hr h) (hstep γ l a w i H hr)
theorem Flow.dep {γ:Γ} {l:Array Bool} {a:Act} {w:World} {i:Nat} (H:Flow ops md ds val G t0 d0 γ l a w) (hr:i∈Region.ready md ops l) (d s:Nat) (hd:((ops[i]?).map fun o=>o.after.any fun e=>e.on == d && Region.binds md e)=some true) (hs:(i,s)=(i,s)∧(d,s)∈ds):a.tmps[s]? = some (val γ d) :=
 H.vs d s hs.2 (dep_of hr hd)
theorem Flow.low {γ:Γ} {l:Array Bool} {a:Act} {w:World} (H:Flow ops md ds val G t0 d0 γ l a w) {s:Nat} {v:Value} (h:(ds.map Prod.snd).contains s=false) (e:t0[s]? = some v):a.tmps[s]? = some v :=
 (H.lo s (by intro hc;rw [← Bool.not_eq_true] at h;exact h (by simpa using hc))).trans e
section
variable {γ:Γ} {l:Array Bool} {a:Act} {w:World} {i:Nat}
theorem flow_val {X:Op} {v:Value} {w':World} (hX:(ops[i]?).map (fun o=>(o.op,o.guard))=some (X,none)) (hrun:∀ o:Oper,o.op=X→(execOp a.eval o).run P w = .ok (.value v) w') (hv:v=val γ i) (hg:G γ (l.setIfInBounds i true) w'):wpOp P ops Q i (FlowK ops val G γ l a i) a w:=by
 cases ho:ops[i]? with
 | none=>rw [ho] at hX;cases hX
 | some o =>
  rw [ho] at hX
  simp only [Option.map_some,Option.some.injEq,Prod.mk.injEq] at hX
  refine wpOp_of ho hX.2 ?_
  unfold Oper.wp
  rw [hrun o hX.1]
  exact ⟨o,v,γ,ho,rfl,hv,fun _ _=>rfl,hg⟩
theorem flow_call {f:FuncId} {lb:Array Value} {c:Operand} {args:Array Operand} {ts:Array TypeId} {vs:Array Value} (hX:(ops[i]?).map (fun o=>(o.op,o.guard))=some (.call { callee:=.value c,args:=args,argTypes:=ts },none)) (hc:a.eval c = .func (.func f) #[] lb) (eg:∀ args w,(callFunc f args).run P w = .ok (.enter f args) w)
  (ha:args.map a.eval ++ lb=vs) (h:Calls P f vs w fun e w' => ∃ v γ',e = .returned v∧v=val γ' i∧(∀ j,on' l j→val γ' j=val γ j)∧G γ' (l.setIfInBounds i true) w'):wpOp P ops Q i (FlowK ops val G γ l a i) a w:=by
 cases ho:ops[i]? with
 | none=>rw [ho] at hX;cases hX
 | some o =>
  rw [ho] at hX
  simp only [Option.map_some,Option.some.injEq,Prod.mk.injEq] at hX
  subst ha
  refine wpOp_of ho hX.2 (o_call hX.1 hc eg (h.mono ?_))
  rintro e w' ⟨v,γ',rfl,hv,hst,hg⟩
  exact ⟨v,rfl,o,v,γ',ho,rfl,hv,hst,hg⟩
theorem flow_wanted {j s:Nat} {b gb:Bool} {g:Option (Nat × Bool)} (hgd:(ops[i]?).map (·.guard)=some g) (hg:g=some (j,b)) (hj:(ops[j]?).bind (·.dst)=some s) (hv:a.tmps[s]? = some (.bool gb)):∀ o,ops[i]? = some o→Region.wanted o (yielded ops a.tmps)=(gb == b):=by
 intro o ho
 rw [ho] at hgd
 simp only [Option.map_some,Option.some.injEq] at hgd
 unfold Region.wanted yielded
 rw [hgd,hg]
 simp only [hj,Option.bind_some,hv]
 cases gb <;> cases b <;> rfl
theorem flow_skip (hw:∀ o,ops[i]? = some o→Region.wanted o (yielded ops a.tmps)=false) (hi:i < ops.size) (hv:undef=val γ i) (hg:G γ (l.setIfInBounds i true) w):wpOp P ops Q i (FlowK ops val G γ l a i) a w:=by
 have ho:ops[i]? = some ops[i]:=Array.getElem?_eq_getElem hi
 unfold wpOp
 rw [ho]
 simp only [hw _ ho]
 exact ⟨_,_,γ,ho,rfl,hv,fun _ _=>rfl,hg⟩
theorem flow_valW {X:Op} {v:Value} {w':World} (hX:(ops[i]?).map (·.op)=some X) (hw:∀ o,ops[i]? = some o→Region.wanted o (yielded ops a.tmps)=true) (hrun:∀ o:Oper,o.op=X→(execOp a.eval o).run P w = .ok (.value v) w') (hv:v=val γ i) (hg:G γ (l.setIfInBounds i true) w'):wpOp P ops Q i (FlowK ops val G γ l a i) a w:=by
 cases ho:ops[i]? with
 | none=>rw [ho] at hX;cases hX
 | some o =>
  rw [ho] at hX
  simp only [Option.map_some,Option.some.injEq] at hX
  unfold wpOp
  rw [ho]
  simp only [hw o ho,if_true]
  refine .inl ?_
  unfold Oper.wp
  rw [hrun o hX]
  exact ⟨o,v,γ,ho,rfl,hv,fun _ _=>rfl,hg⟩
theorem flow_callW {f:FuncId} {lb:Array Value} {c:Operand} {args:Array Operand} {ts:Array TypeId} {vs:Array Value} (hX:(ops[i]?).map (·.op)=some (.call { callee:=.value c,args:=args,argTypes:=ts })) (hw:∀ o,ops[i]? = some o→Region.wanted o (yielded ops a.tmps)=true) (hc:a.eval c = .func (.func f) #[] lb) (eg:∀ args w,(callFunc f args).run P w = .ok (.enter f args) w)
  (ha:args.map a.eval ++ lb=vs) (h:Calls P f vs w fun e w' => ∃ v γ',e = .returned v∧v=val γ' i∧(∀ j,on' l j→val γ' j=val γ j)∧G γ' (l.setIfInBounds i true) w'):wpOp P ops Q i (FlowK ops val G γ l a i) a w:=by
 cases ho:ops[i]? with
 | none=>rw [ho] at hX;cases hX
 | some o =>
  rw [ho] at hX
  simp only [Option.map_some,Option.some.injEq] at hX
  subst ha
  unfold wpOp
  rw [ho]
  simp only [hw o ho,if_true]
  refine .inl (o_call hX hc eg (h.mono ?_))
  rintro e w' ⟨v,γ',rfl,hv,hst,hg⟩
  exact ⟨v,rfl,o,v,γ',ho,rfl,hv,hst,hg⟩
theorem flow_guard {X:Op} {v:Value} {j s:Nat} {gb:Bool} (hX:(ops[i]?).map (·.op)=some X) (hgd:(ops[i]?).map (·.guard)=some (some (j,true))) (hj:(ops[j]?).bind (·.dst)=some s) (hv:a.tmps[s]? = some (.bool gb)) (hval:val γ i=if gb=true then v else undef)
  (hrun:gb=true→∀ o:Oper,o.op=X→(execOp a.eval o).run P w = .ok (.value v) w) (hg:G γ (l.setIfInBounds i true) w):wpOp P ops Q i (FlowK ops val G γ l a i) a w:=by
 have hw:=flow_wanted (i:=i) hgd rfl hj hv
 cases gb with
 | true=>exact flow_valW hX hw (hrun rfl) hval.symm hg
 | false =>
  cases ho:ops[i]? with
  | none=>rw [ho] at hX;cases hX
  | some o=>exact flow_skip hw (Array.getElem?_eq_some_iff.1 ho).1 hval.symm hg
theorem flow_guardCall {f:FuncId} {lb:Array Value} {c:Operand} {args:Array Operand} {ts:Array TypeId} {vs:Array Value} {j s:Nat} {gb:Bool} (hX:(ops[i]?).map (·.op)=some (.call { callee:=.value c,args:=args,argTypes:=ts })) (hgd:(ops[i]?).map (·.guard)=some (some (j,true))) (hj:(ops[j]?).bind (·.dst)=some s) (hv:a.tmps[s]? = some (.bool gb))
  (hc:a.eval c = .func (.func f) #[] lb) (eg:∀ args w,(callFunc f args).run P w = .ok (.enter f args) w) (h0:gb=false→val γ i=undef) (hg0:gb=false→G γ (l.setIfInBounds i true) w)
  (ha:gb=true→args.map a.eval ++ lb=vs) (h:gb=true→Calls P f vs w fun e w' => ∃ v γ',e = .returned v∧v=val γ' i∧(∀ j,on' l j→val γ' j=val γ j)∧G γ' (l.setIfInBounds i true) w'):wpOp P ops Q i (FlowK ops val G γ l a i) a w:=by
 have hw:=flow_wanted (i:=i) hgd rfl hj hv
 cases gb with
 | true=>exact flow_callW hX hw hc eg (ha rfl) (h rfl)
 | false =>
  cases ho:ops[i]? with
  | none=>rw [ho] at hX;cases hX
  | some o=>exact flow_skip hw (Array.getElem?_eq_some_iff.1 ho).1 (h0 rfl).symm (hg0 rfl)
theorem flowIn_val {X:Op} {v:Value} {w':World} (hX:(ops[i]?).map (fun o=>(o.op,o.guard))=some (X,none)) (hrun:∀ o:Oper,o.op=X→(execOp a.eval o).run P w = .ok (.value v) w') (hv:∀ s,(i,s)∈dstsOf ops→v=val γ i) (hg:G γ (l.setIfInBounds i true) w'):wpOpIn Fence.wide n P ops Q i (FlowK ops val G γ l a i) a w:=by
 cases ho:ops[i]? with
 | none=>rw [ho] at hX;cases hX
 | some o =>
  rw [ho] at hX
  simp only [Option.map_some,Option.some.injEq,Prod.mk.injEq] at hX
  refine wpOpIn_of ho (by simp [Region.wanted,hX.2]) (oIn_val (hrun o hX.1) ?_)
  cases hd:o.dst with
  | none=>exact ⟨o,val γ i,γ,ho,by rw [hd];rfl,rfl,fun _ _=>rfl,hg⟩
  | some s=>exact ⟨o,v,γ,ho,by rw [hd],hv s (dstsOf_mem.2 ⟨o,ho,hd⟩),fun _ _=>rfl,hg⟩
theorem flowIn_stmt {X:Op} {w':World} (hX:(ops[i]?).map (fun o=>(o.op,o.guard,o.dst))=some (X,none,none)) (hrun:∀ o:Oper,o.op=X→(execOp a.eval o).run P w = .ok .skip w') (hg:G γ (l.setIfInBounds i true) w'):wpOpIn Fence.wide n P ops Q i (FlowK ops val G γ l a i) a w:=by
 cases ho:ops[i]? with
 | none=>rw [ho] at hX;cases hX
 | some o =>
  rw [ho] at hX
  simp only [Option.map_some,Option.some.injEq,Prod.mk.injEq] at hX
  obtain ⟨h1,h2,h3⟩:=hX
  refine wpOpIn_of ho (by simp [Region.wanted,h2]) ⟨fun _ _=>trivial,?_⟩
  show o.uponIn Fence.wide n P a _ Q ((execOp a.eval o).run P w)
  rw [hrun o h1]
  exact ⟨o,val γ i,γ,ho,by rw [h3];rfl,rfl,fun _ _=>rfl,hg⟩
end
end
end
end Go.Proofs.YtbcebibkpfklnaaGreatDoor
