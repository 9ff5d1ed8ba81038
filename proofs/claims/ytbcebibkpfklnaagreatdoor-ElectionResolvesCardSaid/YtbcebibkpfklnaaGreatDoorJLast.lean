/- Last Last2 -/
import Derived.Test.YtbcebibkpfklnaaGreatDoorJWhere
import Derived.Test.YtbcebibkpfklnaaGreatDoorJViewCheck
import Derived.RangeFuncBox
import Derived.Laws.ResultCell
set_option maxHeartbeats 16000000
set_option maxRecDepth 100000
namespace Go.Proofs.YtbcebibkpfklnaaGreatDoor
section
open Go Go.RowKit Go.Shelf Num
theorem results_row_tmp {P:Program} {fn:Func} {p u:Tmp} {ty:TypeId} (h:fn.results = #[.cell p ty,.tmp u]) (tmps:Array Value) (w:World) (g:Nat) (t:TypeId) (cs:Array Value) (fr:Nat × Nat) (d:TypeDesc)
  (hp:tmps.getD p undef = .pointer (some ⟨g,0,none⟩)) (hg:w.heap[g]? = some (.cells cs t fr))
  (hu:P.underlying ty=some d) (hd:(match d with | .struct _ | .array _ _=>true | _=>false)=true) (hi:(P.info? ty).map (·.size)=some cs.size) :
  (results fn tmps).run P w = .ok (.tuple #[.agg cs,tmps.getD u undef]) w:=by
 have hp':tmps[p]?.getD undef = .pointer (some ⟨g,0,none⟩):=by simpa using hp
 simp [results,h,hp',asAddr,run_loadVar_row w g t ty cs fr d hg hu hd hi]
def lastArr (l:List FactV):Array Value:=match l.getLast? with
 | some x=>x.arr
 | none=>Z21
theorem lastArr_snoc (l:List FactV) (x:FactV):lastArr (l ++ [x])=x.arr:=by simp [lastArr]
theorem lastArr_size (l:List FactV):(lastArr l).size=21:=by
 unfold lastArr
 split
 ·rfl
 ·rfl
theorem lastArr_one (l:List FactV):(lastArr l).all (·.oneCell')=true:=by
 unfold lastArr
 split
 ·exact cells_one _
 ·simp [Z21,Value.oneCell']
theorem factInfo21:(Tryz.prog.info? 30).map (·.size)=some 21:=by kernel_rfl
theorem box_own {β:Type} (B:Nat) (t:TypeId) (f:β→Array Value):Own (fun s W=>Box W B (f s) t):=fun s X Y row hs hg hrow=>by
 refine ⟨Nat.lt_of_lt_of_le hs.1 hg.size,(hg.block B hs.1 fun e => ?_).trans hs.2⟩
 obtain ⟨o,ho,hc⟩:=hrow B e.symm
 rw [hs.2] at ho
 cases ho
 cases hc
theorem box_setRow {W:World} {b b':Nat} {cs cs':Array Value} {t:TypeId} (h:Box W b cs t) (hne:b ≠ b'):Box (W.setRow b' cs') b cs t :=
 ⟨by simp [World.setRow];exact h.1,(setRow_other W b' b cs' hne).trans h.2⟩
theorem box_same {W:World} {b:Nat} {cs cs':Array Value} {t:TypeId} (h:Box W b cs t):Box (W.setRow b cs') b cs' t :=
 ⟨by simp [World.setRow];exact h.1,setRow_heap _ _ _ _ _ _ h.2⟩
theorem Boxed.box {W:World} {b:Nat} {t:TypeId} {v:Value} (h:Boxed W b t v):Box W b #[v] t:=⟨h.lt,h⟩
theorem Box.boxed {W:World} {b:Nat} {t:TypeId} {v:Value} (h:Box W b #[v] t):Boxed W b t v:=h.2
theorem box_setCell {W:World} {b b':Nat} {cs:Array Value} {v:Value} {t:TypeId} (h:Box W b cs t) (hne:b ≠ b'):Box (W.setCell ⟨b',0,none⟩ v) b cs t :=
 ⟨Nat.lt_of_lt_of_le h.1 (grownBy_setCell' W b' v).size,((grownBy_setCell' W b' v).block b h.1 (fun e=>hne (by cases e;rfl))).trans h.2⟩
theorem below_keeps {W W':World} (h:Below W.heap.size W W'):KeepsOthers W W':=⟨h.size,fun k _ hk _=>(h.block k (Array.getElem?_eq_some_iff.1 hk).1).trans hk⟩
structure Kept (P:Nat→Prop) (A B:World):Prop where
 os:B.os=A.os
 tape:B.tape=A.tape
 output:B.output=A.output
 size:A.heap.size≤B.heap.size
 block:∀ k,P k→B.heap[k]? = A.heap[k]?
theorem Kept.trans {P:Nat→Prop} {A B C:World} (h:Kept P A B) (g:Kept P B C):Kept P A C:=⟨g.os.trans h.os,g.tape.trans h.tape,g.output.trans h.output,Nat.le_trans h.size g.size,fun k hk=>(g.block k hk).trans (h.block k hk)⟩
theorem Kept.of_below {P:Nat→Prop} {n:Nat} {A B:World} (h:Below n A B) (hp:∀ k,P k→k < n):Kept P A B:=⟨h.os,h.tape,h.output,h.size,fun k hk=>h.block k (hp k hk)⟩
theorem Kept.below {P:Nat→Prop} {n:Nat} {A B:World} (h:Kept P A B) (hp:∀ k,k < n→P k):Below n A B:=⟨h.os,h.tape,h.output,h.size,fun k hk=>h.block k (hp k hk)⟩
theorem Kept.box {P:Nat→Prop} {A B:World} (h:Kept P A B) {b:Nat} {cs:Array Value} {T:TypeId} (hp:P b) (hb:Box A b cs T):Box B b cs T:=⟨Nat.lt_of_lt_of_le hb.1 h.size,(h.block b hp).trans hb.2⟩
theorem Kept.refl (P:Nat→Prop) (A:World):Kept P A A:=⟨rfl,rfl,rfl,Nat.le_refl _,fun _ _=>rfl⟩
theorem Kept.putObj {P:Nat→Prop} (W:World) (l:Nat) (o':Obj) (hp:¬ P l):Kept P W (W.putObj l o'):=by
 have g:=grownBy_putObj' W l o'
 exact ⟨g.os,g.tape,g.output,g.size,fun k hk=>by
  rcases Nat.lt_or_ge k W.heap.size with h | h
  ·exact g.block k h (fun e=>hp (by cases e;exact hk))
  ·have:(W.putObj l o').heap.size=W.heap.size:=by simp [World.putObj]
   rw [Array.getElem?_eq_none h,Array.getElem?_eq_none (by omega)]⟩
theorem Kept.setRow {P:Nat→Prop} {A W:World} (h:Kept P A W) {b:Nat} (hp:¬ P b) (cs:Array Value):Kept P A (W.setRow b cs) :=
 ⟨h.os,h.tape,h.output,by simp [World.setRow];exact h.size,fun k hk=>(setRow_other W b k cs (fun e=>hp (e ▸ hk))).trans (h.block k hk)⟩
theorem Kept.setCell {P:Nat→Prop} {A W:World} (h:Kept P A W) {b:Nat} (hp:¬ P b) (v:Value):Kept P A (W.setCell ⟨b,0,none⟩ v) :=
 have g:=grownBy_setCell' W b v
 ⟨g.os.trans h.os,g.tape.trans h.tape,g.output.trans h.output,Nat.le_trans h.size g.size,fun k hk=>by
  rcases Nat.lt_or_ge k W.heap.size with hl | hl
  ·exact (g.block k hl (fun e=>hp (by cases e;exact hk))).trans (h.block k hk)
  ·have hs:(W.setCell ⟨b,0,none⟩ v).heap.size=W.heap.size:=by simp [World.setCell]
   have:=h.block k hk
   rw [Array.getElem?_eq_none (by omega)] at this ⊢
   exact this⟩
theorem Kept.of_grown {P:Nat→Prop} {A B:World} {b:Nat} (g:A.grownBy B (some b)) (hb:¬ P b) (hP:∀ k,P k→k < A.heap.size):Kept P A B:=⟨g.os,g.tape,g.output,g.size,fun k hk=>g.block k (hP k hk) (fun e=>hb (by cases e;exact hk))⟩
theorem run_store_agg {P:Program} {o:Oper} {a:Act} {w:World} {ty:TypeId} {x y:Operand} (ho:o.op = .store ty x y) {g:Nat} (hx:a.eval x = .pointer (some ⟨g,0,none⟩)) {cells:Array Value} (hy:a.eval y = .agg cells)
  {t:TypeId} {old:Array Value} (hg:Box w g old t) (hi:(P.info? ty).map (·.size)=some cells.size) (hold:old.size=cells.size) (h1:cells.all (·.oneCell')=true):(execOp a.eval o).run P w = .ok .skip (w.setRow g cells):=by
 unfold execOp
 simp only [ho,hx,hy,Instr.storeAt,Instr.sureAddr,Sem.run_bind,Sem.run_pure,Result.andThen_ok,run_storeVar_row w g t ty old cells hg.2 hi hold h1]
noncomputable def laOps:Array Oper:=(Tryz.f39.body.bind (regIn 6)).getD #[]
def laDs:List (Nat × Nat):=[(0,15),(1,16),(3,5)]
structure LaC where
 W0:World
 b4:Nat
 b6:Nat
 b7:Nat
 arr:Array Value
 bb:Bool
def LaC.val (C:LaC) (_:Unit):Nat→Value
 | 0 => .agg C.arr
 | _ => .bool C.bb
def LaC.g (C:LaC) (_:Unit) (l:Array Bool) (W:World):Prop:=(¬ on' l 2∧W=C.W0)∨(on' l 2∧W=C.W0.setRow C.b4 C.arr)
structure LaM (C:LaC) (t0:Array Value):Prop where
 sz:t0.size=17
 t4:t0[4]? = some (.pointer (some ⟨C.b4,0,none⟩))
 t6:t0[6]? = some (.pointer (some ⟨C.b6,0,none⟩))
 t7:t0[7]? = some (.pointer (some ⟨C.b7,0,none⟩))
 k4:Box C.W0 C.b4 Z21 30
 k6:Box C.W0 C.b6 C.arr 30
 k7:Box C.W0 C.b7 #[.bool C.bb] 4
 n6:C.b6 ≠ C.b4
 n7:C.b7 ≠ C.b4
 asz:C.arr.size=21
 one:C.arr.all (·.oneCell')=true
section
variable {C:LaC} {t0:Array Value} {d0:List Deferred} {Q:Exit→Act→World→Prop} {l:Array Bool} {w:World} {n:Nat}
theorem LaC.keep {i:Nat} (hi:i ≠ 2) (h:C.g () l w):C.g () (l.setIfInBounds i true) w:=by
 rcases h with ⟨h,e⟩ | ⟨h,e⟩
 ·exact .inl ⟨fun h'=>h (on'_back h' (Ne.symm hi)),e⟩
 ·exact .inr ⟨on'_set h,e⟩
theorem LaC.boxes (M:LaM C t0) (h:C.g () l w):Box w C.b6 C.arr 30∧Box w C.b7 #[.bool C.bb] 4:=by
 rcases h with ⟨_,rfl⟩ | ⟨_,rfl⟩
 ·exact ⟨M.k6,M.k7⟩
 ·exact ⟨box_setRow M.k6 M.n6,box_setRow M.k7 M.n7⟩
theorem last_region (M:LaM C t0) {a:Act} (hdf:a.defers=d0) (ht:a.tmps=t0) (hw:w.drewN 1=C.W0)
  (hQ:Q .normal { tmps:=layT (C.val ()) laDs t0,defers:=d0 } (C.W0.setRow C.b4 C.arr)):(Code.region 6 laOps true).wpIn Fence.wide n Tryz.prog Q a w:=by
 have hsz:laOps.size=4:=by kernel_rfl
 refine flow_regionIn (ds:=laDs) (val:=C.val) (G:=C.g) (by kernel_rfl) (by kernel_rfl) (by decide) (fun p hp => ?_) (by kernel_rfl) ?_ (γ:=()) hdf ht (.inl ⟨no_on _ _,hw⟩) ?_
 ·rw [M.sz]
  have:∀ p,p∈laDs→p.2 < 17:=by decide
  exact this p hp
 ·intro γ l a w i H hr
  cases γ
  have hi:i < 4:=by
   obtain ⟨_,o,ho,_⟩:=mem_ready.1 hr
   have:=(Array.getElem?_eq_some_iff.1 ho).1
   rw [hsz] at this
   exact this
  have t4:=H.low (s:=4) (by decide) M.t4
  have t6:=H.low (s:=6) (by decide) M.t6
  have t7:=H.low (s:=7) (by decide) M.t7
  have hbx:=LaC.boxes M H.g
  match i,hi,hr with
  | 0,_,hr=>exact flowIn_val (X:=.load 30 (.tmp 6)) (by kernel_rfl) (fun o h=>run_load_agg h (ev' t6) (box_list hbx.1) Tryz.underlying30 rfl (by rw [M.asz];exact factInfo21)) (fun _ _=>rfl) (LaC.keep (by decide) H.g)
  | 1,_,hr =>
   have hc:=hbx.2.cell 0
   exact flowIn_val (X:=.load 4 (.tmp 7)) (v:=.bool C.bb) (by kernel_rfl) (fun o h=>by simp [execOp,h,t7,hc,go_sem]) (fun _ _=>rfl) (LaC.keep (by decide) H.g)
  | 2,_,hr =>
   have v0:a.tmps[15]? = some (.agg C.arr):=H.dep hr 0 15 (by kernel_rfl) ⟨rfl,by decide⟩
   have hw:w=C.W0:=by
    rcases H.g with ⟨_,e⟩ | ⟨h,_⟩
    ·exact e
    ·exact absurd h (not_on' (mem_ready.1 hr).1)
   subst hw
   exact flowIn_stmt (X:=.store 30 (.tmp 4) (.tmp 15)) (by kernel_rfl) (fun o h=>run_store_agg h (ev' t4) (ev' v0) M.k4 (by rw [M.asz];exact factInfo21) (by rw [M.asz];rfl) M.one) (.inr ⟨on'_self (by rw [H.sz,hsz];decide),rfl⟩)
  | 3,_,hr =>
   have v0:a.tmps[16]? = some (.bool C.bb):=H.dep hr 1 16 (by kernel_rfl) ⟨rfl,by decide⟩
   exact flowIn_val (X:=.assign (.tmp 16)) (v:=.bool C.bb) (by kernel_rfl) (fun o h=>by simp [execOp,h,v0,go_sem]) (fun _ _=>rfl) (LaC.keep (by decide) H.g)
  | n+4,h,_=>exact absurd h (by omega)
 ·rintro ⟨⟩ l W hall hg
  rcases hg with ⟨h,_⟩ | ⟨_,rfl⟩
  ·exact absurd (hall 2 (by rw [hsz];decide)) h
  ·exact hQ
end
end
section
open Go Go.RowKit Go.Shelf Num
theorem gives_where (n:Nat) (xs:List FactV) (a:Option Addr) (c bl bi gf:Nat) (lb:Array Value) (p:FactP→Bool) (P:Nat→Prop) (w:World) (hn:xs.length≤1000000) (eg:∀ args w,(callFunc gf args).run Tryz.prog w = .ok (.enter gf args) w)
  (hP:∀ k,P k→k < w.heap.size) (hS:∀ W,Kept P w W→WhereAt W xs a c bl bi gf lb p) :
  SeqStopsK Fence.wide n Tryz.prog 74 #[.pointer (some ⟨bl,0,none⟩),.pointer (some ⟨bi,0,none⟩)] encF (Kept P) (fun ys=>ys=wfil xs p 0) (fun q => ∃ r x s,wfil xs p 0=r ++ x :: s∧q=r ++ [x]) xs.length w:=by
 intro l J Jx W hW hJ hJx hY h0
 refine (where1_in n l xs a c bl bi gf lb p J Jx (Kept P w) (Kept P) W hn eg hY (fun pre A B hj hb=>hJ pre A _ none hj (grownBy_of_below hb) (fun r e=>by cases e)) hS (fun A B hA hb=>hA.trans (Kept.of_below hb fun k hk=>Nat.lt_of_lt_of_le (hP k hk) hA.size)) (fun A B hA hb=>hA.trans hb) h0 (Kept.of_below hW hP)).mono ?_
 rintro e W' ⟨hv,h | ⟨pre,x,r,h,hx⟩⟩
 ·exact ⟨hv,.inl ⟨_,rfl,h⟩⟩
 ·exact ⟨hv,.inr ⟨_,⟨pre,x,r,h,rfl⟩,hx⟩⟩
attribute [local go_sem] Oper.semAt_some
theorem last_any (xs:List FactV) (a:Option Addr) (c:Nat) (f:FactV) (w:World) (hn:xs.length≤1000000) (hr:Facts w a xs) :
  Calls Tryz.prog 39 #[.slice a xs.length c,.agg f.arr] w fun e w'=>e = .returned (.tuple #[.agg (lastArr (wfil xs (fun y=>elects y f.f) 0)),.bool (!(wfil xs (fun y=>elects y f.f) 0).isEmpty)])∧Below w.heap.size w w':=by
 have HR:=Lib.hid hr
 have HSZ:Hid ((Tryz.prog.info? 30).map (·.size)=some f.arr.size):=factSize f.f f.pa f.oa f.pc f.oc
 have HOF:Hid (∀ (x:FactV) (bf:Nat) (W:World),Box W bf f.arr 30→Calls Tryz.prog 95 #[.agg x.arr,.pointer (some ⟨bf,0,none⟩)] W fun e w'=>e = .returned (.bool ((fun y=>elects y f.f) x.f))∧Below W.heap.size W w'):=fun x bf W h=>of1_any x f bf W h
 generalize (fun y=>elects y f.f)=p at *
 generalize f.arr=fc at *
 clear hr
 refine (callsIn_wide (n:=6)).1 ?_
 refine callsIn_of_wp_marks Tryz.func39 rfl trivial ?_ rfl
 simp only [Tryz.ntmps39,List.size_toArray,List.length_cons,List.length_nil,Nat.reduceAdd,Nat.reduceSub,Array.replicate_succ,Array.replicate_zero,List.push_toArray,List.append_toArray,List.nil_append,List.cons_append]
 have b1:=below_alloc w (.cells fc 30)
 have b2:=below_alloc (w.alloc (.cells fc 30)) (.cells Z21 30)
 have b3:=below_alloc ((w.alloc (.cells fc 30)).alloc (.cells Z21 30)) (.cells Z21 30)
 have b4:=below_alloc (((w.alloc (.cells fc 30)).alloc (.cells Z21 30)).alloc (.cells Z21 30)) (.cells #[.bool false] 4)
 have KF:=Lib.hid ((((Box.new0 w fc 30).below b2).below b3).below b4)
 have KR:=((Box.new0 (w.alloc (.cells fc 30)) Z21 30).below b3).below b4
 have KO:=(Box.new0 ((w.alloc (.cells fc 30)).alloc (.cells Z21 30)) Z21 30).below b4
 have KB:=Box.new0 (((w.alloc (.cells fc 30)).alloc (.cells Z21 30)).alloc (.cells Z21 30)) #[.bool false] 4
 have HB4:=Lib.hid (below_up (below_up (below_up b1 b2) b3) b4)
 have s4:((((w.alloc (.cells fc 30)).alloc (.cells Z21 30)).alloc (.cells Z21 30)).alloc (.cells #[.bool false] 4)).heap.size=w.heap.size+1+1+1+1:=by simp only [World.size_alloc]
 rw [World.size_alloc] at KR
 rw [World.size_alloc,World.size_alloc] at KO
 rw [World.size_alloc,World.size_alloc,World.size_alloc] at KB
 have KR:=Lib.hid KR
 have KO:=Lib.hid KO
 have KB:=Lib.hid KB
 have S4:=Lib.hid s4
 clear b1 b2 b3 b4 s4
 gi_wp2_with (refine wpListIn_load_row (by rfl) 30 _ rfl w.heap.size rfl fc _ KF.out Tryz.underlying30 rfl HSZ.out ?_)
 refine ⟨trivial,(callsIn_wide.2 (of_any _ _)).mono ?_⟩
 rintro e w1 ⟨bf,rfl,lbf,kbf,hb1⟩
 have S1:Hid (w.heap.size+1+1+1+1≤w1.heap.size∧w.heap.size+1+1+1+1≤bf):=⟨by rw [← S4.out];exact hb1.size,by rw [← S4.out];exact lbf⟩
 have KR:=Lib.hid (KR.out.below hb1)
 have KO:=Lib.hid (KO.out.below hb1)
 have KB:=Lib.hid (KB.out.below hb1)
 have HB1:=Lib.hid (below_up HB4.out hb1)
 have KBF:=Lib.hid kbf
 clear lbf kbf hb1 S4 HB4 KF
 gi_wp2_with fail
 refine ⟨trivial,(callsIn_wide.2 (where_any _ _ _ _ _ _)).mono ?_⟩
 rintro e w2 ⟨bl,bi,rfl,lbl,lbi,kbl,kbi,hb2⟩
 have KR:=Lib.hid (KR.out.below hb2)
 have KO:=Lib.hid (KO.out.below hb2)
 have KB:=Lib.hid (KB.out.below hb2)
 have KBF:=Lib.hid (KBF.out.below hb2)
 have HB2:=Lib.hid (below_up HB1.out hb2)
 have HW2:Hid (w.heap.size+1+1+1+1≤w2.heap.size∧w.heap.size+1+1+1+1≤bl∧w.heap.size+1+1+1+1≤bi∧w.heap.size+1+1+1+1≤bf):=by have h1:=S1.out;have h2:=hb2.size;show _∧_;omega
 have KBL:=Lib.hid kbl
 have KBI:=Lib.hid kbi
 clear lbl lbi kbl kbi hb2 S1 HB1
 obtain ⟨P,hP⟩:∃ P:Nat→Prop,P=fun k=>k < w2.heap.size∧k ≠ w.heap.size+1+1∧k ≠ w.heap.size+1+1+1:=⟨_,rfl⟩
 have HPP:Hid (∀ k,P k ↔ k < w2.heap.size∧k ≠ w.heap.size+1+1∧k ≠ w.heap.size+1+1+1):=fun k=>by rw [hP]
 clear hP
 have hg:=gives_where 5 xs a c bl bi 95 #[.pointer (some ⟨bf,0,none⟩)] p P w2 hn (enters_of Tryz.func95 (by kernel_rfl) rfl) (fun k hk=>((HPP.out k).1 hk).1) (fun W hW=>by
  have h2:=HW2.out
  have hbf:=hW.box ((HPP.out bf).2 ⟨KBF.out.1,by omega,by omega⟩) KBF.out
  exact ⟨HR.out.below (HB2.out.trans (hW.below fun k hk=>(HPP.out k).2 ⟨by omega,by omega,by omega⟩)),hW.box ((HPP.out bl).2 ⟨KBL.out.1,by omega,by omega⟩) KBL.out,hW.box ((HPP.out bi).2 ⟨KBI.out.1,by omega,by omega⟩) KBI.out,fun x _ W' hW'=>HOF.out x bf W' (hbf.below hW')⟩)
 have HG:=Lib.hid hg
 clear hg HOF HR KBF KBL KBI
 gi_wp2_with fail
 refine wpIn_rangeFunc_ownH (F:=Fence.wide) rfl (by decide) (gf:=74) (lb:=#[.pointer (some ⟨bl,0,none⟩),.pointer (some ⟨bi,0,none⟩)]) rfl trivial (enters_of Tryz.func74 (by kernel_rfl) rfl) HG.out
  (fun h k=>h.trans k) (fun W l o o' hl _ _ _=>Kept.putObj W l o' fun hp=>absurd ((HPP.out l).1 hp).1 (by omega)) (Below.refl _ _) (fun _=>rfl)
  (fun pre W=>(Box W (w.heap.size+1+1) (lastArr pre) 30∧Box W (w.heap.size+1+1+1) #[.bool (!pre.isEmpty)] 4∧Box W (w.heap.size+1) Z21 30)∧(Below w.heap.size w W∧w2.heap.size≤W.heap.size))
  (fun _ _ _=>False)
  (OwnFrom.and (Own.from (fun s A B row hs hg hr=>⟨box_own _ _ lastArr s A B row hs.1 hg hr,box_own _ _ (fun pre:List FactV => #[.bool (!pre.isEmpty)]) s A B row hs.2.1 hg hr,box_own _ _ (fun _=>Z21) s A B row hs.2.2 hg hr⟩) _) (OwnFrom.and (ownFrom_below (Nat.le_refl _) (by have:=HW2.out;omega)) (fun _ A B row hs hg _=>Nat.le_trans hs hg.size)))
  (fun _ _ _ _ _ hs _ _=>hs)
  ⟨⟨KO.out,KB.out,KR.out⟩,HB2.out,Nat.le_refl _⟩
  (fun x a' W => ∃ Bx,w2.heap.size≤Bx∧Box W Bx x.arr 30∧a' = { tmps:=#[.slice a xs.length c,.agg fc,undef,.pointer (some ⟨w.heap.size,0,none⟩),.pointer (some ⟨w.heap.size+1,0,none⟩),.bool false,.pointer (some ⟨w.heap.size+1+1,0,none⟩),.pointer (some ⟨w.heap.size+1+1+1,0,none⟩),.pointer (some ⟨Bx,0,none⟩),.slice a xs.length c,.agg fc,.func (.func 95) #[] #[.pointer (some ⟨bf,0,none⟩)],.func (.func 74) #[] #[.pointer (some ⟨bl,0,none⟩),.pointer (some ⟨bi,0,none⟩)],.agg x.arr,undef,undef,undef],defers:=[] })
  (fun x a' _ A B row hs hg hr=>by obtain ⟨Bx,h1,h2,h3⟩:=hs;exact ⟨Bx,h1,box_own Bx _ (fun (_:Unit)=>x.arr) () A B row h2 hg (fun r e=>(hr r e).2),h3⟩)
  ?assign ?body ?done ?stop
 case assign =>
  rintro l pre x W K ⟨⟨k6,k7,k4⟩,hB,hsz⟩ hK
  have HN:=Lib.hid (heap_alloc_new W (.cells Z21 30))
  have HBa:=below_alloc W (.cells Z21 30)
  have K6:=Lib.hid (k6.below HBa)
  have K7:=Lib.hid (k7.below HBa)
  have K4:=Lib.hid (k4.below HBa)
  have l6:=k6.1
  have l7:=k7.1
  have l4:=k4.1
  have HKA:=Lib.hid (KeepsOthers.alloc W (.cells Z21 30))
  have HBA:=Lib.hid HBa
  have HB:=Lib.hid hB
  have HSX:Hid ((Tryz.prog.info? 30).map (·.size)=some x.arr.size):=factSize x.f x.pa x.oa x.pc x.oc
  have HS21:Hid (Z21.size=x.arr.size):=rfl
  have HONE:=Lib.hid (cells_one x)
  have HKK:=Lib.hid hK
  unfold encF
  clear k6 k7 k4 hB HBa hK
  gi_wp2_with (refine wpListIn_store_new (by rfl) 30 _ _ rfl W.heap.size rfl x.arr rfl HN.out HSX.out HS21.out HONE.out ?_;intro w4 kx bx ko kot _)
  have hb4:=HBA.out.trans (bx _ (Nat.le_refl _))
  exact HKK.out _ _ ((HKA.out.trans ko).from _) (Kept.of_below hb4 (fun k hk=>Nat.lt_of_lt_of_le ((HPP.out k).1 hk).1 hsz)) ⟨⟨kot _ _ _ (by omega) K6.out,kot _ _ _ (by omega) K7.out,kot _ _ _ (by omega) K4.out⟩,below_up HB.out hb4,Nat.le_trans hsz hb4.size⟩ ⟨W.heap.size,hsz,kx,rfl⟩
 case body =>
  rintro l pre x a' W hl ⟨r,hr⟩ ⟨⟨k6,k7,k4⟩,hB,hsz⟩ ⟨Bx,hBx,kX,rfl⟩ hlt
  have l6:=k6.1
  have l7:=k7.1
  have h2:=HW2.out
  have n1:w.heap.size+1+1+1 ≠ w.heap.size+1+1:=by omega
  have n2:w.heap.size+1 ≠ w.heap.size+1+1:=by omega
  have n3:w.heap.size+1 ≠ w.heap.size+1+1+1:=by omega
  have HK6:=Lib.hid k6
  have HK7:=Lib.hid k7
  have HK4:=Lib.hid k4
  have HKX:=Lib.hid kX
  have HB:=Lib.hid hB
  have HSX:Hid ((Tryz.prog.info? 30).map (·.size)=some x.arr.size):=factSize x.f x.pa x.oa x.pc x.oc
  have HS21:Hid ((lastArr pre).size=x.arr.size):=lastArr_size pre
  have HONE:=Lib.hid (cells_one x)
  clear k6 k7 k4 hB hr h2 hBx kX
  gi_wp2_with (first | (refine wpListIn_load_row (by rfl) 30 _ rfl Bx rfl x.arr _ HKX.out Tryz.underlying30 rfl HSX.out ?_) | (refine wpListIn_store_new (by rfl) 30 _ _ rfl (w.heap.size+1+1) rfl x.arr rfl HK6.out.2 HSX.out HS21.out HONE.out ?_;intro w4 kx bx ko kot gr;have HKX4:=Lib.hid kx;have HBX4:=Lib.hid bx;have HKO4:=Lib.hid ko;have HKOT:=Lib.hid kot;have HGR:=Lib.hid gr;have c7:=(kot _ _ _ n1 HK7.out).cell 0;have f7:=Boxed.frozen (Box.boxed (kot _ _ _ n1 HK7.out));clear kx bx ko kot gr))
  have h2:=HW2.out
  have hP1:∀ k,P k→k < W.heap.size:=fun k hk=>Nat.lt_of_lt_of_le ((HPP.out k).1 hk).1 hsz
  have hP2:¬ P (w.heap.size+1+1):=fun hp=>((HPP.out _).1 hp).2.1 rfl
  have hP3:¬ P (w.heap.size+1+1+1):=fun hp=>((HPP.out _).1 hp).2.2 rfl
  have hk4:=Kept.of_grown HGR.out hP2 hP1
  have hb4:Below w.heap.size W w4:=HBX4.out _ (by omega)
  have hb5:=hb4.setCell (p:=⟨w.heap.size+1+1+1,0,none⟩) (by simp;omega) (.bool true)
  exact ⟨(HKO4.out.trans (KeepsOthers.setCell _ _ _)).from _,hk4.setCell hP3 _,⟨⟨by rw [lastArr_snoc];exact box_setCell HKX4.out (by omega),by have:=Boxed.box (Boxed.set (.bool true) (Box.boxed (HKOT.out _ _ _ n1 HK7.out)));rw [show (!(pre ++ [x]).isEmpty)=true by simp];exact this,box_setCell (HKOT.out _ _ _ n2 HK4.out) n3⟩,HB.out.trans hb5,Nat.le_trans hsz hb5.size⟩⟩
 case done =>
  rintro D ys W hD rfl ⟨⟨k6,k7,k4⟩,hB,hsz⟩ hK
  have h2:=HW2.out
  have hD1:D ≠ w.heap.size+1:=by omega
  have HK:=Lib.hid hK
  have HB:=Lib.hid hB
  have HHD:=Lib.hid hD
  have M:LaM ⟨W.drewN 1,w.heap.size+1,w.heap.size+1+1,w.heap.size+1+1+1,lastArr (wfil xs p 0),!(wfil xs p 0).isEmpty⟩ #[.slice a xs.length c,.agg fc,undef,.pointer (some ⟨w.heap.size,0,none⟩),.pointer (some ⟨w.heap.size+1,0,none⟩),.bool false,.pointer (some ⟨w.heap.size+1+1,0,none⟩),.pointer (some ⟨w.heap.size+1+1+1,0,none⟩),undef,.slice a xs.length c,.agg fc,.func (.func 95) #[] #[.pointer (some ⟨bf,0,none⟩)],.func (.func 74) #[] #[.pointer (some ⟨bl,0,none⟩),.pointer (some ⟨bi,0,none⟩)],undef,undef,undef,undef]:=⟨rfl,rfl,rfl,rfl,k4,k6,k7,by show w.heap.size+1+1 ≠ w.heap.size+1;omega,by show w.heap.size+1+1+1 ≠ w.heap.size+1;omega,lastArr_size _,lastArr_one _⟩
  gi_wp2_with fail
  refine last_region M rfl rfl rfl ?_
  clear M
  have HARR:=Lib.hid (lastArr_size (wfil xs p 0))
  have k4':Box (W.drewN 1) (w.heap.size+1) Z21 30:=k4
  have HK4:=Lib.hid (box_same (cs':=lastArr (wfil xs p 0)) k4')
  have HK5:Hid (((W.drewN 1).setRow (w.heap.size+1) (lastArr (wfil xs p 0))).heap[D]? = some (.deferred (some []))):=(setRow_other _ _ D _ hD1).trans hK
  have HB5:Hid (Below w.heap.size w ((W.drewN 1).setRow (w.heap.size+1) (lastArr (wfil xs p 0)))):=below_setRow (below_drewN hB 1) (Nat.le_succ _) _
  simp only [layT,laDs,List.foldl,List.setIfInBounds_toArray,List.set_cons_zero,List.set_cons_succ,LaC.val]
  clear k6 k7 k4 hB hK hD hsz h2 k4'
  generalize (W.drewN 1).setRow (w.heap.size+1) (lastArr (wfil xs p 0))=W5 at *
  gi_wp2
  refine ⟨by simp,.inl ⟨_,_,rfl,run_takeDeferred HK5.out,?_⟩⟩
  have hh:=(World.putObj_heap_other (w:=W5) (o:=.deferred none) (Ne.symm hD1)).trans HK4.out.2
  exact ⟨_,results_row_tmp rfl _ _ _ _ _ (0,0) _ rfl hh Tryz.underlying30 rfl (by rw [HARR.out];exact factInfo21),rfl,HB5.out.trans (belowK_b (w:=w) (Nat.le_refl _) W5 D _ _ (by have:=HW2.out;have:=HHD.out;omega) HK5.out rfl rfl)⟩
 case stop =>
  rintro D c pre W _ _ h _
  exact h.elim
end
end Go.Proofs.YtbcebibkpfklnaaGreatDoor
