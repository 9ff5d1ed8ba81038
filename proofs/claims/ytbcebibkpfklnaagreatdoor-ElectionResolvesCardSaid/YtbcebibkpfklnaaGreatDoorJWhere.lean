/- Where -/
import Derived.Test.YtbcebibkpfklnaaGreatDoorJLog
import Derived.Test.YtbcebibkpfklnaaGreatDoorJView
import Derived.Test.YtbcebibkpfklnaaGreatDoorJWith
import Derived.RangeFuncNested
import Derived.RangeFuncBound
import Derived.RangeFuncCalls
import Derived.RangeFuncLeaves
import Derived.RangeFuncFrom
import Derived.Shelf.Abstract
import Derived.Shelf.RegionOpen
import Derived.WalkKit
import Derived.OwnWalkIn
import Derived.TacticsInMore
import Derived.LoopNIn
import Derived.LoopIn
set_option maxHeartbeats 16000000
set_option maxRecDepth 100000
namespace Go.Proofs.YtbcebibkpfklnaaGreatDoor
open Go Go.RowKit Go.Shelf Num
theorem grownBy_of_below {w w':World} (h:Below w.heap.size w w'):w.grownBy w' none:=⟨h.os,h.tape,h.output,h.size,fun k hk _=>h.block k hk⟩
section
variable {F:Fence} {n:Nat} {P:Program} {ops:Array Oper} {Q:Exit→Act→World→Prop} {a:Act} {w:World} {rest:List Oper} {o:Oper}
theorem wpListIn_load_row (hgd:Region.wanted o (yielded ops a.tmps)=true) (ty:TypeId) (x:Operand) (ho:o.op = .load ty x) (g:Nat) (hx:a.eval x = .pointer (some ⟨g,0,none⟩)) (cs:Array Value) (d:TypeDesc) {T:TypeId} (hg:Box w g cs T)
  (hu:P.underlying ty=some d) (hd:(match d with | .struct _ | .array _ _=>true | _=>false)=true) (hi:(P.info? ty).map (·.size)=some cs.size) (h:wpListIn F n P ops Q rest (a.put o.dst (.agg cs)) w):wpListIn F n P ops Q (o :: rest) a w:=by
 refine wpListIn_step fun K hK => ?_
 rw [if_pos hgd]
 refine ⟨fun f hf=>(by unfold Oper.about at hf;rw [ho] at hf;cases hf),?_⟩
 rw [Oper.semAt_plain F _ _ (by rw [ho];intro c hc;cases hc)]
 unfold execOp
 simp only [ho,hx,Instr.loadAt,Instr.sureAddr,Sem.run_bind,Sem.run_pure,Result.andThen_ok,run_loadVar_at w g 0 ty cs d (fun j v hv=>by rw [Nat.zero_add,hg.cell j,← Array.getElem?_toList];exact hv) hu hd hi]
 exact hK _ _ h
theorem wpListIn_load_at (hgd:Region.wanted o (yielded ops a.tmps)=true) (ty:TypeId) (x:Operand) (ho:o.op = .load ty x) (g off:Nat) (hx:a.eval x = .pointer (some ⟨g,off,none⟩)) (cs:Array Value) (d:TypeDesc) (hc:∀ j v,cs.toList[j]? = some v→w.cell? ⟨g,off+j,none⟩=some v)
  (hu:P.underlying ty=some d) (hd:(match d with | .struct _ | .array _ _=>true | _=>false)=true) (hi:(P.info? ty).map (·.size)=some cs.size) (h:wpListIn F n P ops Q rest (a.put o.dst (.agg cs)) w):wpListIn F n P ops Q (o :: rest) a w:=by
 refine wpListIn_step fun K hK => ?_
 rw [if_pos hgd]
 refine ⟨fun f hf=>(by unfold Oper.about at hf;rw [ho] at hf;cases hf),?_⟩
 rw [Oper.semAt_plain F _ _ (by rw [ho];intro c hc;cases hc)]
 unfold execOp
 simp only [ho,hx,Instr.loadAt,Instr.sureAddr,Sem.run_bind,Sem.run_pure,Result.andThen_ok,run_loadVar_at w g off ty cs d hc hu hd hi]
 exact hK _ _ h
theorem wpListIn_store_row (hgd:Region.wanted o (yielded ops a.tmps)=true) (ty:TypeId) (x y:Operand) (ho:o.op = .store ty x y) (g:Nat) (hx:a.eval x = .pointer (some ⟨g,0,none⟩)) (cells:Array Value) (hy:a.eval y = .agg cells)
  {t:TypeId} {old:Array Value} (hg:w.heap[g]? = some (.cells old t (0,0))) (hi:(P.info? ty).map (·.size)=some cells.size) (hold:old.size=cells.size) (h1:cells.all (·.oneCell')=true)
  (h:wpListIn F n P ops Q rest (a.put o.dst undef) (w.setRow g cells)):wpListIn F n P ops Q (o :: rest) a w:=by
 refine wpListIn_step fun K hK => ?_
 rw [if_pos hgd]
 refine ⟨fun f hf=>(by unfold Oper.about at hf;rw [ho] at hf;cases hf),?_⟩
 rw [Oper.semAt_plain F _ _ (by rw [ho];intro c hc;cases hc)]
 unfold execOp
 simp only [ho,hx,hy,Instr.storeAt,Instr.sureAddr,Sem.run_bind,Sem.run_pure,Result.andThen_ok,run_storeVar_row w g t ty old cells hg hi hold h1]
 exact hK _ _ h
end
theorem wpListIn_store_new {F:Fence} {n:Nat} {P:Program} {ops:Array Oper} {Q:Exit→Act→World→Prop} {a:Act} {w:World} {rest:List Oper} {o:Oper} (hgd:Region.wanted o (yielded ops a.tmps)=true) (ty:TypeId) (x y:Operand) (ho:o.op = .store ty x y) (g:Nat) (hx:a.eval x = .pointer (some ⟨g,0,none⟩)) (cells:Array Value) (hy:a.eval y = .agg cells)
  {t:TypeId} {old:Array Value} (hg:w.heap[g]? = some (.cells old t (0,0))) (hi:(P.info? ty).map (·.size)=some cells.size) (hold:old.size=cells.size) (h1:cells.all (·.oneCell')=true)
  (h:∀ w',Box w' g cells t→(∀ B,B≤g→Below B w w')→KeepsOthers w w'→(∀ b cs T,b ≠ g→Box w b cs T→Box w' b cs T)→w.grownBy w' (some g)→wpListIn F n P ops Q rest (a.put o.dst undef) w'):wpListIn F n P ops Q (o :: rest) a w:=by
 refine wpListIn_store_row hgd ty x y ho g hx cells hy hg hi hold h1 (h _ ⟨by simp [World.setRow];exact (Array.getElem?_eq_some_iff.1 hg).1,setRow_heap _ _ _ _ _ _ hg⟩ (fun B hB=>below_setRow (Below.refl _ _) hB _) ⟨by simp [World.setRow],fun k o hk ho => ?_⟩ (fun b cs T hne hb=>⟨by simp [World.setRow];exact hb.1,(setRow_other w g b cells hne).trans hb.2⟩) ⟨rfl,rfl,rfl,by simp [World.setRow],fun k _ hk=>setRow_other w g k cells (fun e=>hk (by rw [e]))⟩)
 refine (setRow_other w g k cells fun e => ?_).trans hk
 subst e
 rw [hg] at hk
 cases hk
 cases ho
theorem of_any (fc:Array Value) (w:World) :
  Calls Tryz.prog 68 #[.agg fc] w fun e w' => ∃ bf,e = .returned (.func (.func 95) #[] #[.pointer (some ⟨bf,0,none⟩)])∧w.heap.size≤bf∧Box w' bf fc 30∧Below w.heap.size w w':=by
 go_enter Tryz.func68,Tryz.ntmps68
 go_wp2
 go_ret
 exact ⟨_,rfl,Nat.le_refl _,Box.new0 w fc _,below_alloc _ _⟩
theorem of1_any (x f:FactV) (bf:Nat) (w:World) (hb:Box w bf f.arr 30) :
  Calls Tryz.prog 95 #[.agg x.arr,.pointer (some ⟨bf,0,none⟩)] w fun e w'=>e = .returned (.bool (elects x.f f.f))∧Below w.heap.size w w':=by
 have KX:=Box.new0 w x.arr 30
 have KF:=hb.below (below_alloc w (.cells x.arr 30))
 have x4:=(KX.cell 4).trans (show _=some (.int .i64 x.f.kind) from rfl)
 have x8:=(KX.cell 8).trans (show _=some (.string ⟨x.f.target.toArray⟩) from rfl)
 have x5:=(KX.cell 5).trans (show _=some (.string ⟨x.f.ins.toArray⟩) from rfl)
 have x3:=(KX.cell 3).trans (show _=some (.int .i64 x.f.day) from rfl)
 have x17:=(KX.cell 20).trans (show _=some (.int .i64 x.f.choice) from rfl)
 have f0:=(KF.cell 0).trans (show _=some (.string ⟨f.f.key.toArray⟩) from rfl)
 have f5:=(KF.cell 5).trans (show _=some (.string ⟨f.f.ins.toArray⟩) from rfl)
 have f3:=(KF.cell 3).trans (show _=some (.int .i64 f.f.day) from rfl)
 have f16:=(KF.cell 19).trans (show _=some (.slice f.oa f.f.options.length f.oc) from rfl)
 have HB0:=Lib.hid (below_alloc w (.cells x.arr 30))
 obtain ⟨res,hres⟩:∃ res,res=elects x.f f.f:=⟨_,rfl⟩
 rw [← hres]
 unfold elects at hres
 have HR:=Lib.hid hres
 clear hres KX KF hb
 generalize x.arr=xc at *
 generalize x.f.kind=k at *
 generalize x.f.target=tg at *
 generalize x.f.ins=xi at *
 generalize x.f.day=xd at *
 generalize x.f.choice=ch at *
 generalize f.f.key=key at *
 generalize f.f.ins=fi at *
 generalize f.f.day=fd at *
 generalize f.f.options.length=ol at *
 by_cases h1:k=11
 ·subst h1
  cases h2:(tg == key) with
  | false =>
   have HV:Hid (res=false):=by show _=_;rw [HR.out,h2];simp
   go_enter Tryz.func95,Tryz.ntmps95
   go_wp2
   go_ret
   exact ⟨by rw [HV.out];rfl,HB0.out⟩
  | true =>
   cases h3:(xi == fi) with
   | false =>
    have HV:Hid (res=false):=by show _=_;rw [HR.out,h3];simp
    go_enter Tryz.func95,Tryz.ntmps95
    go_wp2
    go_ret
    exact ⟨by rw [HV.out];rfl,HB0.out⟩
   | true =>
    by_cases h4:xd≤fd
    ·by_cases h5:ch < (ol:Int)
     ·have HV:Hid (res=true):=by show _=_;rw [HR.out,h2,h3];simp [h4,h5]
      go_enter Tryz.func95,Tryz.ntmps95
      go_wp2
      go_ret
      exact ⟨by rw [HV.out];rfl,HB0.out⟩
     ·have HV:Hid (res=false):=by show _=_;rw [HR.out,h2,h3];simp [h5]
      go_enter Tryz.func95,Tryz.ntmps95
      go_wp2
      go_ret
      exact ⟨by rw [HV.out];rfl,HB0.out⟩
    ·have HV:Hid (res=false):=by show _=_;rw [HR.out,h2,h3];simp [h4]
     go_enter Tryz.func95,Tryz.ntmps95
     go_wp2
     go_ret
     exact ⟨by rw [HV.out];rfl,HB0.out⟩
 ·have h1':(k == 11)=false:=by simpa using h1
  have HV:Hid (res=false):=by show _=_;rw [HR.out];simp [h1]
  go_enter Tryz.func95,Tryz.ntmps95
  go_wp2
  go_ret
  exact ⟨by rw [HV.out];rfl,HB0.out⟩
theorem exchange_any (x:FactV) (w:World) :
  Calls Tryz.prog 48 #[.agg x.arr] w fun e w'=>e = .returned (.bool (decide (x.f.kind=10)))∧Below w.heap.size w w':=by
 have KX:=Box.new0 w x.arr 30
 have x4:=(KX.cell 4).trans (show _=some (.int .i64 x.f.kind) from rfl)
 have HB0:=Lib.hid (below_alloc w (.cells x.arr 30))
 clear KX
 generalize x.arr=xc at *
 generalize x.f.kind=k at *
 by_cases h1:k=10
 ·subst h1
  go_enter Tryz.func48,Tryz.ntmps48
  go_wp2
  go_ret
  exact ⟨rfl,HB0.out⟩
 ·have h1':(k == 10)=false:=by simpa using h1
  have h1'':decide (k=10)=false:=by simpa using h1
  rw [h1'']
  go_enter Tryz.func48,Tryz.ntmps48
  go_wp2
  go_ret
  exact ⟨rfl,HB0.out⟩
theorem where_any (a:Option Addr) (n c:Nat) (gf:Nat) (lb:Array Value) (w:World) :
  Calls Tryz.prog 45 #[.slice a n c,.func (.func gf) #[] lb] w fun e w' => ∃ bl bi,e = .returned (.func (.func 74) #[] #[.pointer (some ⟨bl,0,none⟩),.pointer (some ⟨bi,0,none⟩)])∧w.heap.size≤bl∧w.heap.size≤bi∧Box w' bl #[.slice a n c] 22∧Box w' bi #[.func (.func gf) #[] lb] 62∧Below w.heap.size w w':=by
 go_enter Tryz.func45,Tryz.ntmps45
 go_wp2
 go_ret
 refine ⟨w.heap.size,w.heap.size+1,rfl,Nat.le_refl _,Nat.le_succ _,(Box.new0 w _ _).below (below_alloc _ _),?_,((Below.refl _ _).alloc (Nat.le_refl _) _).alloc (by simp) _⟩
 have h:=Box.new0 (w.alloc (.cells #[.slice a n c] 22)) #[.func (.func gf) #[] lb] 62
 rw [World.size_alloc] at h
 exact h
def encF (x:FactV):Array Value:=#[.agg x.arr]
structure WhereAt (W:World) (xs:List FactV) (a:Option Addr) (c bl bi gf:Nat) (lb:Array Value) (p:FactP→Bool):Prop where
 facts:Facts W a xs
 kl:Box W bl #[.slice a xs.length c] 22
 ki:Box W bi #[.func (.func gf) #[] lb] 62
 tells:∀ x,x∈xs→∀ W',Below W.heap.size W W'→Calls Tryz.prog gf (#[.agg x.arr] ++ lb) W' fun e w'=>e = .returned (.bool (p x.f))∧Below W'.heap.size W' w'
def wfil (xs:List FactV) (p:FactP→Bool) (k:Nat):List FactV:=(xs.drop k).filter fun x=>p x.f
theorem wfil_at {xs:List FactV} {p:FactP→Bool} {k:Nat} {x:FactV} (h:xs[k]? = some x):wfil xs p k=if p x.f=true then x :: wfil xs p (k+1) else wfil xs p (k+1):=by
 obtain ⟨hl,he⟩:=List.getElem?_eq_some_iff.1 h
 unfold wfil
 rw [List.drop_eq_getElem_cons hl,he,List.filter_cons]
attribute [local go_sem] Oper.semAt_some
theorem where1_in (n:Nat) (l:Nat) (xs:List FactV) (a:Option Addr) (c bl bi gf:Nat) (lb:Array Value) (p:FactP→Bool) (J Jx:List FactV→World→Prop) (S:World→Prop) (Kp:World→World→Prop) (W:World) (hn:xs.length≤1000000)
  (eg:∀ args w,(callFunc gf args).run Tryz.prog w = .ok (.enter gf args) w)
  (hY:∀ pre (x:FactV) W,J pre W→pre.length < xs.length→YieldAt Fence.wide (n - 1) Tryz.prog l (encF x) W fun e W'=>(e = .returned (.bool true)∧J (pre ++ [x]) W'∧Kp W W')∨(e = .returned (.bool false)∧Jx (pre ++ [x]) W'))
  (hJg:∀ pre A B,J pre A→Below A.heap.size A B→J pre B) (hS1:∀ W,S W→WhereAt W xs a c bl bi gf lb p) (hS2:∀ A B,S A→Below A.heap.size A B→S B) (hS3:∀ A B,S A→Kp A B→S B) (h0:J [] W) (hs0:S W) :
  CallsIn Fence.wide n Tryz.prog 74 #[.func (.yield l) #[] #[],.pointer (some ⟨bl,0,none⟩),.pointer (some ⟨bi,0,none⟩)] W fun e W'=>(∃ v,e = .returned v)∧(J (wfil xs p 0) W'∨∃ pre x r,wfil xs p 0=pre ++ x :: r∧Jx (pre ++ [x]) W'):=by
 have HY:=Lib.hid hY
 have HJG:=Lib.hid hJg
 have HS1:=Lib.hid hS1
 have HSB:=Lib.hid hS2
 have HSK:=Lib.hid hS3
 have H0:=Lib.hid h0
 have HSS:=Lib.hid hs0
 have k1:=(hS1 _ hs0).kl.cell 0
 clear hY hJg hS1 hS2 hS3 h0 hs0
 refine callsIn_of_wp Tryz.func74 rfl trivial ?_ rfl
 simp only [Tryz.ntmps74,List.size_toArray,List.length_cons,List.length_nil,Nat.reduceAdd,Nat.reduceSub,Array.replicate_succ,Array.replicate_zero,List.push_toArray,List.append_toArray,List.nil_append,List.cons_append]
 gi_wp2
 gi_loopw [8] (fun iv wr => ∃ (k:Nat) (pre:List FactV),k≤xs.length∧iv = .int .i64 k∧Hid (pre.length≤k)∧Hid (wfil xs p 0=pre ++ wfil xs p k)∧Hid (J pre wr)∧Hid (S wr)) (fun iv _=>xs.length - (intOf iv).toNat)
 case atStart=>exact ⟨0,[],Nat.zero_le _,rfl,Nat.le_refl _,rfl,H0,HSS⟩
 case round =>
  obtain ⟨k,pre,hk,rfl,hpl,HS,HJ,HB⟩:=hrel
  clear k1 H0 HSS
  have HW:=Lib.hid (HS1.out _ HB.out)
  by_cases hlt:k < xs.length
  ·obtain ⟨x,hx⟩:∃ x,xs[k]? = some x:=⟨xs[k],List.getElem?_eq_getElem hlt⟩
   obtain ⟨b,off,rfl,_,hc⟩:=HW.out.facts.1.addr (k:=k) (cs:=x.cells) (by rw [List.getElem?_map,hx];rfl)
   have HC:Hid (∀ j v,x.arr.toList[j]? = some v→wr.cell? ⟨b,off+k * 21+j,none⟩=some v):=hc
   have k1:=HW.out.kl.cell 0
   have HSZ:Hid ((Tryz.prog.info? 30).map (·.size)=some x.arr.size):=factSize x.f x.pa x.oa x.pc x.oc
   have HONE:=Lib.hid (cells_one x)
   have hsz21:x.arr.size=21:=rfl
   have HS2:=Lib.hid (HS.out.trans (by rw [wfil_at hx]))
   have HT:=Lib.hid (HW.out.tells x (List.mem_of_getElem? hx))
   have HENC:Hid (encF x = #[.agg x.arr]):=rfl
   generalize hfc:x.arr=fc at *
   have HBa:Hid (Below wr.heap.size wr (wr.alloc (.cells Z21 30))):=below_alloc _ _
   have HS21:Hid (Z21.size=fc.size):=hsz21.symm
   have HNEW:=Lib.hid (heap_alloc_new wr (.cells Z21 30))
   clear hsz21 HS hc
   gi_wp2_with (first | (refine wpListIn_load_at (by rfl) 30 _ rfl b (off+k * 21) rfl fc _ HC.out Tryz.underlying30 rfl HSZ.out ?_) | (refine wpListIn_store_new (by rfl) 30 _ _ rfl wr.heap.size rfl fc rfl HNEW.out HSZ.out HS21.out HONE.out ?_;intro w1 kb b1 _ _ _;have KBr:=Lib.hid kb;have hb1:=HBa.out.trans (b1 _ (Nat.le_refl _));have HBr:=Lib.hid hb1;have HSr:=Lib.hid (HSB.out _ _ HB.out hb1);have HJr:=Lib.hid (HJG.out _ _ _ HJ.out hb1);have k2:=(HS1.out _ HSr.out).ki.cell 0;clear kb b1 hb1 HJ) | (refine wpListIn_load_row (by rfl) 30 _ rfl wr.heap.size rfl fc _ KBr.out Tryz.underlying30 rfl HSZ.out ?_))
   refine ⟨trivial,fun h=>absurd h (by decide),(callsIn_wide.2 (HT.out _ HBr.out)).mono ?_⟩
   rintro e w2 ⟨rfl,hb2⟩
   have HB2:=Lib.hid (HSB.out _ _ HSr.out hb2)
   have HJ2:=Lib.hid (HJG.out _ _ _ HJr.out hb2)
   have KB2:=Lib.hid (KBr.out.below hb2)
   clear hb2 HBr HJr KBr HNEW HS21 HONE k2 HT HC
   cases hpx:p x.f with
   | false =>
    have HS3:Hid (wfil xs p 0=pre ++ wfil xs p (k+1)):=by show _=_;rw [HS2.out,if_neg (by rw [hpx];decide)]
    clear hpx HS2
    gi_wp2
    refine ⟨fun f h=>(by cases h),?_⟩
    gi_wp2
    go_roundw
    case rel=>exact ⟨k+1,pre,by omega,by go_num,Nat.le_succ_of_le hpl.out,HS3,HJ2,HB2⟩
    case measure=>simp [intOf];omega
   | true =>
    have HS3:Hid (wfil xs p 0=(pre ++ [x]) ++ wfil xs p (k+1)):=by show _=_;rw [HS2.out,if_pos hpx];simp
    clear hpx HS2
    obtain ⟨fn,tmps,assign,body,hy,hRd⟩:=HY.out pre x w2 HJ2.out (Nat.lt_of_le_of_lt hpl.out hlt)
    rw [HENC.out] at hy
    gi_wp2_with (refine wpListIn_load_row (by rfl) 30 _ rfl wr.heap.size rfl fc _ KB2.out Tryz.underlying30 rfl HSZ.out ?_)
    refine ⟨fun h=>absurd h (by decide),hRd.mono ?_⟩
    rintro e W3 (⟨rfl,hJ3,hk3⟩ | ⟨rfl,hJx3⟩)
    ·have HB3:=Lib.hid (HSK.out _ _ HB2.out hk3)
     have HJ3:=Lib.hid hJ3
     clear hJ3 hk3 hy hRd HJ2 HB2 KB2
     gi_wp2
     go_roundw
     case rel=>exact ⟨k+1,pre ++ [x],by omega,by go_num,by show _≤_;rw [List.length_append];exact Nat.succ_le_succ hpl.out,HS3,HJ3,HB3⟩
     case measure=>simp [intOf];omega
    ·have HJ3:=Lib.hid hJx3
     clear hJx3 hy hRd HJ2 HB2 KB2
     gi_wp2
     refine bodyPost_ret (results_none rfl _ _ _) rfl ?_
     exact ⟨⟨_,rfl⟩,.inr ⟨pre,x,wfil xs p (k+1),by rw [HS3.out];simp,HJ3.out⟩⟩
  ·obtain rfl:k=xs.length:=by omega
   have HE:Hid (wfil xs p 0=pre):=by show _=_;rw [HS.out];unfold wfil;rw [List.drop_eq_nil_of_le (Nat.le_refl _)];simp
   have k1:=HW.out.kl.cell 0
   clear HS
   gi_wp2
   go_end0
   exact ⟨⟨_,rfl⟩,.inl (by rw [HE.out];exact HJ.out)⟩
end Go.Proofs.YtbcebibkpfklnaaGreatDoor
