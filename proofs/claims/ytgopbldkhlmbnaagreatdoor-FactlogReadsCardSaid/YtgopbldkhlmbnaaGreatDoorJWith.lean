/- OrderIn With With2 With3 -/
import Derived.Test.YtgopbldkhlmbnaaGreatDoorJCheck
import Derived.Test.YtgopbldkhlmbnaaGreatDoorJLog
import Derived.OrdersIn
import Derived.RangeFuncSeq
import Derived.RangeFuncNested
import Derived.RangeFuncBound
import Derived.RangeFuncCalls
import Derived.RangeFuncLeaves
import Derived.Shelf.Abstract
import Derived.Shelf.RegionOpen
import Derived.WalkKit
import Derived.OwnWalkIn
import Derived.TacticsInMore
import Derived.LoopNIn
import Derived.LoopIn
set_option maxHeartbeats 16000000
set_option maxRecDepth 100000
namespace Go.Proofs.YtgopbldkhlmbnaaGreatDoor
section
open Go
section
variable {n:Nat} {P:Program} {ops:Array Oper} {Q:Exit→Act→World→Prop} {md:Region.Mode}
theorem wpAnyIn_inv {F:Fence} (I:Array Bool→Act→World→Prop) (hdone:∀ l a w,I l a w→Region.ready md ops l=[]→Q .normal a w)
  (hstep:∀ l a w i,I l a w→i∈Region.ready md ops l→wpOpIn F n P ops Q i (I (l.setIfInBounds i true)) a w) :
  ∀ fuel l a w,unlisted ops l≤fuel→I l a w→wpAnyIn F n P md ops Q fuel l a w:=by
 intro fuel
 induction fuel with
 | zero =>
  intro l a w hc hi
  have hr:Region.ready md ops l=[]:=by
   cases h:Region.ready md ops l with
   | nil=>rfl
   | cons i r =>
    have:=unlisted_set (md:=md) (ops:=ops) (l:=l) (i:=i) (by rw [h];simp)
    omega
  exact ⟨hr,hdone l a w hi hr⟩
 | succ n ih =>
  intro l a w hc hi
  refine ⟨hdone l a w hi,fun i hr=>wpOpIn_mono (fun a' w' h'=>ih _ a' w' ?_ h') (hstep l a w i hi hr)⟩
  have:=unlisted_set hr
  omega
theorem wpOpIn_of {F:Fence} {i:Nat} {o:Oper} {K:Act→World→Prop} {a:Act} {w:World} (ho:ops[i]? = some o) (hg:Region.wanted o (yielded ops a.tmps)=true) (h:o.wpIn F n P a w K Q):wpOpIn F n P ops Q i K a w:=by
 unfold wpOpIn
 rw [ho]
 simp only [hg,if_true]
 exact h
theorem wpOpIn_skip {i:Nat} {o:Oper} {K:Act→World→Prop} {a:Act} {w:World} (ho:ops[i]? = some o) (hg:Region.wanted o (yielded ops a.tmps)=false) (h:K (a.put o.dst undef) w):wpOpIn Fence.wide n P ops Q i K a w:=by
 unfold wpOpIn
 rw [ho]
 simp only [hg]
 exact ⟨fun _ _=>trivial,h⟩
end
section
variable {n:Nat} {P:Program} {Q:Exit→Act→World→Prop} {o:Oper} {K:Act→World→Prop} {a:Act} {w w':World}
theorem oIn_val {v:Value} (h:(execOp a.eval o).run P w = .ok (.value v) w') (hk:K (a.put o.dst v) w'):o.wpIn Fence.wide n P a w K Q:=by
 refine ⟨fun _ _=>trivial,?_⟩
 show o.uponIn Fence.wide n P a K Q ((execOp a.eval o).run P w)
 rw [h]
 exact hk
theorem oIn_yield {l:Nat} {c:Operand} {args:Array Operand} {ts:Array TypeId} {R:Ending→World→Prop} (hop:o.op = .call { callee:=.value c,args:=args,argTypes:=ts }) (hc:a.eval c = .func (.yield l) #[] #[])
  (hy:YieldAt Fence.wide (n - 1) P l (args.map a.eval) w R) (hR:∀ e w',R e w'→∃ v,e = .returned v∧K (a.put o.dst v) w'):o.wpIn Fence.wide n P a w K Q:=by
 obtain ⟨fn,tmps,assign,body,hy,hr⟩:=hy
 refine ⟨fun _ _=>trivial,?_⟩
 have h1:resolve a.eval { callee:=.value c,args:=args,argTypes:=ts } o.type=pure { target:=.fn (.yield l) #[],args:=args.map a.eval }:=by
  simp only [resolve,hc,Deferred.ofValue]
  simp
 have h2:(execOp a.eval o).run P w = .ok (.round l fn tmps assign body) w:=by
  unfold execOp
  rw [hop]
  simp only [h1]
  simp [invoke,hy]
 show o.uponIn Fence.wide n P a K Q ((execOp a.eval o).run P w)
 rw [h2]
 refine ⟨fun h=>(by cases h),hr.mono ?_⟩
 intro e w' he
 obtain ⟨v,rfl,hk⟩:=hR e w' he
 exact hk
end
end
section
open Go Go.RowKit Go.Shelf Num
attribute [local go_sem] Oper.semAt_some
def keyAt (fs:List FactP) (key:List UInt8) (i:Nat):Bool:=(fs[i]?).any fun f=>f.key == key
def fwd (fs:List FactP) (key:List UInt8) (n k:Nat):List Nat:=((List.range n).drop k).filter (keyAt fs key)
theorem fwd_at {fs:List FactP} {key:List UInt8} {n k:Nat} (h:k < n):fwd fs key n k=if keyAt fs key k=true then k :: fwd fs key n (k+1) else fwd fs key n (k+1):=by
 unfold fwd
 rw [List.drop_eq_getElem_cons (by simpa using h),List.getElem_range,List.filter_cons]
theorem fwd_end (fs:List FactP) (key:List UInt8) (n:Nat):fwd fs key n n=[]:=by
 unfold fwd
 rw [List.drop_eq_nil_of_le (by simp)]
 rfl
def bwd (fs:List FactP) (key:List UInt8):Nat→List Nat
 | 0=>[]
 | k+1=>if keyAt fs key k=true then k :: bwd fs key k else bwd fs key k
theorem with_any (a:Option Addr) (n c:Nat) (key:List UInt8) (step:Int) (w:World) :
  Calls Tryz.prog 56 #[.slice a n c,.string ⟨key.toArray⟩,.int .i64 step] w fun e w' => ∃ bl bk bs,e = .returned (.func (.func 84) #[] #[.pointer (some ⟨bs,0,none⟩),.pointer (some ⟨bl,0,none⟩),.pointer (some ⟨bk,0,none⟩)])∧Box w' bl #[.slice a n c] 22∧Box w' bk #[.string ⟨key.toArray⟩] 9∧Box w' bs #[.int .i64 step] 3∧Below w.heap.size w w':=by
 go_enter Tryz.func56,Tryz.ntmps56
 go_wp2
 go_ret
 refine ⟨w.heap.size,w.heap.size+1,w.heap.size+1+1,rfl,((Box.new0 w _ _).below (below_alloc _ _)).below (below_alloc _ _),?_,?_,(((Below.refl _ _).alloc (Nat.le_refl _) _).alloc (by simp) _).alloc (by simp;omega) _⟩
 ·have h:=(Box.new0 (w.alloc (.cells #[.slice a n c] 22)) #[.string ⟨key.toArray⟩] 9).below (below_alloc _ (.cells #[.int .i64 step] 3))
  rw [World.size_alloc] at h
  exact h
 ·have h:=Box.new0 ((w.alloc (.cells #[.slice a n c] 22)).alloc (.cells #[.string ⟨key.toArray⟩] 9)) #[.int .i64 step] 3
  rw [World.size_alloc,World.size_alloc] at h
  exact h
noncomputable def wOps:Array Oper:=(Tryz.f84.body.bind (regIn 5)).getD #[]
theorem wop_of {i:Nat} {o:Oper} {x:Op} (h:wOps[i]? = some o) (e:(wOps[i]?).map (·.op)=some x):o.op=x:=by rw [h] at e;exact Option.some.inj e
theorem wdst_of {i:Nat} {o:Oper} {x:Option Tmp} (h:wOps[i]? = some o) (e:(wOps[i]?).map (·.dst)=some x):o.dst=x:=by rw [h] at e;exact Option.some.inj e
theorem wguard_of {i:Nat} {o:Oper} {x:Option (Nat × Bool)} (h:wOps[i]? = some o) (e:(wOps[i]?).map (·.guard)=some x):o.guard=x:=by rw [h] at e;exact Option.some.inj e
def wVal (vl yv:Value) (k:Nat) (pt:Value) (xk key:List UInt8) (kb r:Bool):Nat→Value
 | 0=>vl
 | 1 => .int .i64 (k:Int)
 | 2=>pt
 | 3=>pt
 | 4 => .string ⟨xk.toArray⟩
 | 5 => .string ⟨key.toArray⟩
 | 6 => .bool kb
 | 7 => .bool kb
 | 8=>if kb=true then yv else undef
 | 9=>if kb=true then .int .i64 (k:Int) else undef
 | 10=>if kb=true then .bool r else undef
 | 11=>if kb=true then .bool (!r) else undef
 | _ => .bool (kb && !r)
structure WC where
 l:Nat
 n₀:Nat
 W:World
 b:Nat
 off:Nat
 n:Nat
 c:Nat
 bl:Nat
 bk:Nat
 k:Nat
 xk:List UInt8
 key:List UInt8
 pre:List Nat
 t0:Array Value
def WC.val (C:WC) (kb r:Bool):Nat→Value:=wVal (.slice (some ⟨C.b,C.off,none⟩) C.n C.c) (.func (.yield C.l) #[] #[]) C.k (.pointer (some ⟨C.b,C.off+C.k * 21,none⟩)) C.xk C.key kb r
structure WI (C:WC) (J Jx:List Nat→World→Prop) (kb r:Bool) (l:Array Bool) (a:Act) (w:World):Prop where
 sz:l.size=13
 ts:a.tmps.size=35
 df:a.defers=[]
 lo:∀ x,x < 22→a.tmps[x]? = C.t0[x]?
 vs:∀ i,i < 13→on' l i→a.tmps[22+i]? = some (C.val kb r i)
 c2:on' l 2→on' l 0
 c3:on' l 3→on' l 2
 c4:on' l 4→on' l 3
 c6:on' l 6→on' l 4∧on' l 5
 c7:on' l 7→on' l 6
 c10:on' l 10→on' l 7
 c11:on' l 11→on' l 10
 c12:on' l 12→on' l 11
 w1:¬ (kb=true∧on' l 10)→J C.pre w∧Below C.n₀ C.W w
 w2:kb=true→on' l 10→(r=true∧J (C.pre ++ [C.k]) w∧Below C.n₀ C.W w)∨(r=false∧Jx (C.pre ++ [C.k]) w)
structure WM (C:WC) (kb:Bool):Prop where
 t2:C.t0[2]? = some (.pointer (some ⟨C.bl,0,none⟩))
 t3:C.t0[3]? = some (.pointer (some ⟨C.bk,0,none⟩))
 t0:C.t0[0]? = some (.func (.yield C.l) #[] #[])
 t5:C.t0[5]? = some (.int .i64 (C.k:Int))
 hl:C.bl < C.n₀
 hk:C.bk < C.n₀
 hb:C.b < C.n₀
 cl:C.W.cell? ⟨C.bl,0,none⟩=some (.slice (some ⟨C.b,C.off,none⟩) C.n C.c)
 ck:C.W.cell? ⟨C.bk,0,none⟩=some (.string ⟨C.key.toArray⟩)
 cx:C.W.cell? ⟨C.b,C.off+C.k * 21,none⟩=some (.string ⟨C.xk.toArray⟩)
 kb:(C.xk == C.key)=kb
 lt:C.k < C.n
 small:C.n≤1000000
section
variable {C:WC} {J Jx:List Nat→World→Prop} {kb r:Bool} {l:Array Bool} {a:Act} {w:World} {n:Nat} {Q:Exit→Act→World→Prop}
theorem WI.put {i:Nat} {v:Value} (H:WI C J Jx kb r l a w) (hi:i < 13) (hu:l.getD i true=false) (h10:i ≠ 10) (hv:v=C.val kb r i)
  (c2:i=2→on' l 0) (c3:i=3→on' l 2) (c4:i=4→on' l 3) (c6:i=6→on' l 4∧on' l 5) (c7:i=7→on' l 6) (c11:i=11→on' l 10) (c12:i=12→on' l 11):WI C J Jx kb r (l.setIfInBounds i true) (a.put (some (22+i)) v) w:=by
 subst hv
 have h10':on' (l.setIfInBounds i true) 10→on' l 10:=fun h=>on'_back h (Ne.symm h10)
 refine ⟨by simpa using H.sz,by simpa [Act.put] using H.ts,by simpa [Act.put] using H.df,fun x hx=>(put_ne' (by omega)).trans (H.lo x hx),fun j hj hon => ?_,fun h => ?_,fun h => ?_,fun h => ?_,fun h => ?_,fun h => ?_,fun h=>on'_set (H.c10 (h10' h)),fun h => ?_,fun h => ?_,fun h=>H.w1 fun h'=>h ⟨h'.1,on'_set h'.2⟩,fun h1 h2=>H.w2 h1 (h10' h2)⟩
 ·by_cases e:j=i
  ·subst e;exact put_same' (by rw [H.ts];omega)
  ·exact (put_ne' (by omega)).trans (H.vs j hj (on'_back hon e))
 ·by_cases e:i=2
  ·exact on'_set (c2 e)
  ·exact on'_set (H.c2 (on'_back h (Ne.symm e)))
 ·by_cases e:i=3
  ·exact on'_set (c3 e)
  ·exact on'_set (H.c3 (on'_back h (Ne.symm e)))
 ·by_cases e:i=4
  ·exact on'_set (c4 e)
  ·exact on'_set (H.c4 (on'_back h (Ne.symm e)))
 ·by_cases e:i=6
  ·exact ⟨on'_set (c6 e).1,on'_set (c6 e).2⟩
  ·have:=H.c6 (on'_back h (Ne.symm e));exact ⟨on'_set this.1,on'_set this.2⟩
 ·by_cases e:i=7
  ·exact on'_set (c7 e)
  ·exact on'_set (H.c7 (on'_back h (Ne.symm e)))
 ·by_cases e:i=11
  ·exact on'_set (c11 e)
  ·exact on'_set (H.c11 (on'_back h (Ne.symm e)))
 ·by_cases e:i=12
  ·exact on'_set (c12 e)
  ·exact on'_set (H.c12 (on'_back h (Ne.symm e)))
theorem WI.below (H:WI C J Jx kb r l a w) (h:¬ on' l 10):Below C.n₀ C.W w:=(H.w1 fun h'=>h h'.2).2
abbrev WE (C:WC) (J Jx:List Nat→World→Prop) (kb:Bool) (l:Array Bool) (a:Act) (w:World):Prop:=∃ r,WI C J Jx kb r l a w
set_option maxRecDepth 100000
theorem wst_0 (M:WM C kb) (H:WI C J Jx kb r l a w) (hr:0∈Region.ready .any wOps l):wpOpIn Fence.wide n Tryz.prog wOps Q 0 (WE C J Jx kb (l.setIfInBounds 0 true)) a w:=by
 obtain ⟨hu,o,ho,_⟩:=mem_ready.1 hr
 have hop:o.op = .load 22 (.tmp 2):=wop_of ho (by kernel_rfl)
 have hd:o.dst=some 22:=wdst_of ho (by kernel_rfl)
 have hb:=H.below fun h=>not_on' hu (H.c2 (H.c3 (H.c4 (H.c6 (H.c7 (H.c10 h))).1)))
 have hc:=(hb.cell (p:=⟨C.bl,0,none⟩) M.hl).trans M.cl
 have h2:=(H.lo 2 (by decide)).trans M.t2
 refine wpOpIn_of ho (by simp [Region.wanted,wguard_of ho (x:=none) (by kernel_rfl)]) (oIn_val (v:=C.val kb r 0) (w':=w) ?_ ?_)
 ·simp [execOp,hop,go_sem,h2,hc,WC.val,wVal]
 ·rw [hd]
  exact ⟨r,H.put (i:=0) (by decide) hu (by decide) rfl (fun e=>by cases e) (fun e=>by cases e) (fun e=>by cases e) (fun e=>by cases e) (fun e=>by cases e) (fun e=>by cases e) (fun e=>by cases e)⟩
theorem w_wanted (H:WI C J Jx kb r l a w) (h7:on' l 7) {o:Oper} (hg:o.guard=some (7,true)):Region.wanted o (yielded wOps a.tmps)=kb:=by
 have h29:a.tmps[29]? = some (.bool kb):=H.vs 7 (by decide) h7
 have e:(wOps[7]?).bind (·.dst)=some 29:=by kernel_rfl
 unfold Region.wanted yielded
 rw [hg]
 simp only [e,Option.bind_some,h29]
 cases kb <;> rfl
theorem wst_1 (M:WM C kb) (H:WI C J Jx kb r l a w) (hr:1∈Region.ready .any wOps l):wpOpIn Fence.wide n Tryz.prog wOps Q 1 (WE C J Jx kb (l.setIfInBounds 1 true)) a w:=by
 obtain ⟨hu,o,ho,_⟩:=mem_ready.1 hr
 have hop:o.op = .move (.tmp 5):=wop_of ho (by kernel_rfl)
 have hd:o.dst=some 23:=wdst_of ho (by kernel_rfl)
 have h5:=(H.lo 5 (by decide)).trans M.t5
 refine wpOpIn_of ho (by simp [Region.wanted,wguard_of ho (x:=none) (by kernel_rfl)]) (oIn_val (v:=C.val kb r 1) (w':=w) ?_ ?_)
 ·simp [execOp,hop,go_sem,WC.val,wVal,h5]
 ·rw [hd]
  exact ⟨r,H.put (i:=1) (by decide) hu (by decide) rfl (fun e=>by cases e) (fun e=>by cases e) (fun e=>by cases e) (fun e=>by cases e) (fun e=>by cases e) (fun e=>by cases e) (fun e=>by cases e)⟩
theorem wst_2 (M:WM C kb) (H:WI C J Jx kb r l a w) (hr:2∈Region.ready .any wOps l):wpOpIn Fence.wide n Tryz.prog wOps Q 2 (WE C J Jx kb (l.setIfInBounds 2 true)) a w:=by
 obtain ⟨hu,o,ho,_⟩:=mem_ready.1 hr
 have hop:o.op = .indexAddr 22 (.tmp 22) (.tmp 23):=wop_of ho (by kernel_rfl)
 have hd:o.dst=some 24:=wdst_of ho (by kernel_rfl)
 have d0:on' l 0:=dep_of hr (d:=0) (by kernel_rfl)
 have v0:a.tmps[22]? = _:=H.vs 0 (by decide) d0
 have d1:on' l 1:=dep_of hr (d:=1) (by kernel_rfl)
 have v1:a.tmps[23]? = _:=H.vs 1 (by decide) d1
 have hlt:=M.lt
 have hsm:=M.small
 refine wpOpIn_of ho (by simp [Region.wanted,wguard_of ho (x:=none) (by kernel_rfl)]) (oIn_val (v:=C.val kb r 2) (w':=w) ?_ ?_)
 ·simp [execOp,hop,go_sem,WC.val,wVal,v0,v1,hlt]
 ·rw [hd]
  exact ⟨r,H.put (i:=2) (by decide) hu (by decide) rfl (fun _=>d0) (fun e=>by cases e) (fun e=>by cases e) (fun e=>by cases e) (fun e=>by cases e) (fun e=>by cases e) (fun e=>by cases e)⟩
theorem wst_3 (_M:WM C kb) (H:WI C J Jx kb r l a w) (hr:3∈Region.ready .any wOps l):wpOpIn Fence.wide n Tryz.prog wOps Q 3 (WE C J Jx kb (l.setIfInBounds 3 true)) a w:=by
 obtain ⟨hu,o,ho,_⟩:=mem_ready.1 hr
 have hop:o.op = .fieldAddr 36 (.tmp 24) 0:=wop_of ho (by kernel_rfl)
 have hd:o.dst=some 25:=wdst_of ho (by kernel_rfl)
 have d2:on' l 2:=dep_of hr (d:=2) (by kernel_rfl)
 have v2:a.tmps[24]? = _:=H.vs 2 (by decide) d2
 refine wpOpIn_of ho (by simp [Region.wanted,wguard_of ho (x:=none) (by kernel_rfl)]) (oIn_val (v:=C.val kb r 3) (w':=w) ?_ ?_)
 ·simp [execOp,hop,go_sem,WC.val,wVal,v2]
 ·rw [hd]
  exact ⟨r,H.put (i:=3) (by decide) hu (by decide) rfl (fun e=>by cases e) (fun _=>d2) (fun e=>by cases e) (fun e=>by cases e) (fun e=>by cases e) (fun e=>by cases e) (fun e=>by cases e)⟩
theorem wst_4 (M:WM C kb) (H:WI C J Jx kb r l a w) (hr:4∈Region.ready .any wOps l):wpOpIn Fence.wide n Tryz.prog wOps Q 4 (WE C J Jx kb (l.setIfInBounds 4 true)) a w:=by
 obtain ⟨hu,o,ho,_⟩:=mem_ready.1 hr
 have hop:o.op = .load 9 (.tmp 25):=wop_of ho (by kernel_rfl)
 have hd:o.dst=some 26:=wdst_of ho (by kernel_rfl)
 have d3:on' l 3:=dep_of hr (d:=3) (by kernel_rfl)
 have v3:a.tmps[25]? = _:=H.vs 3 (by decide) d3
 have hb:=H.below fun h=>not_on' hu (H.c6 (H.c7 (H.c10 h))).1
 have hc:=(hb.cell (p:=⟨C.b,C.off+C.k * 21,none⟩) M.hb).trans M.cx
 refine wpOpIn_of ho (by simp [Region.wanted,wguard_of ho (x:=none) (by kernel_rfl)]) (oIn_val (v:=C.val kb r 4) (w':=w) ?_ ?_)
 ·simp [execOp,hop,go_sem,WC.val,wVal,v3,hc]
 ·rw [hd]
  exact ⟨r,H.put (i:=4) (by decide) hu (by decide) rfl (fun e=>by cases e) (fun e=>by cases e) (fun _=>d3) (fun e=>by cases e) (fun e=>by cases e) (fun e=>by cases e) (fun e=>by cases e)⟩
theorem wst_5 (M:WM C kb) (H:WI C J Jx kb r l a w) (hr:5∈Region.ready .any wOps l):wpOpIn Fence.wide n Tryz.prog wOps Q 5 (WE C J Jx kb (l.setIfInBounds 5 true)) a w:=by
 obtain ⟨hu,o,ho,_⟩:=mem_ready.1 hr
 have hop:o.op = .load 9 (.tmp 3):=wop_of ho (by kernel_rfl)
 have hd:o.dst=some 27:=wdst_of ho (by kernel_rfl)
 have h3:=(H.lo 3 (by decide)).trans M.t3
 have hb:=H.below fun h=>not_on' hu (H.c6 (H.c7 (H.c10 h))).2
 have hc:=(hb.cell (p:=⟨C.bk,0,none⟩) M.hk).trans M.ck
 refine wpOpIn_of ho (by simp [Region.wanted,wguard_of ho (x:=none) (by kernel_rfl)]) (oIn_val (v:=C.val kb r 5) (w':=w) ?_ ?_)
 ·simp [execOp,hop,go_sem,WC.val,wVal,h3,hc]
 ·rw [hd]
  exact ⟨r,H.put (i:=5) (by decide) hu (by decide) rfl (fun e=>by cases e) (fun e=>by cases e) (fun e=>by cases e) (fun e=>by cases e) (fun e=>by cases e) (fun e=>by cases e) (fun e=>by cases e)⟩
theorem wst_6 (M:WM C kb) (H:WI C J Jx kb r l a w) (hr:6∈Region.ready .any wOps l):wpOpIn Fence.wide n Tryz.prog wOps Q 6 (WE C J Jx kb (l.setIfInBounds 6 true)) a w:=by
 obtain ⟨hu,o,ho,_⟩:=mem_ready.1 hr
 have hop:o.op = .binOp BinOp.eql 9 (.tmp 26) (.tmp 27) 9:=wop_of ho (by kernel_rfl)
 have hd:o.dst=some 28:=wdst_of ho (by kernel_rfl)
 have d4:on' l 4:=dep_of hr (d:=4) (by kernel_rfl)
 have v4:a.tmps[26]? = _:=H.vs 4 (by decide) d4
 have d5:on' l 5:=dep_of hr (d:=5) (by kernel_rfl)
 have v5:a.tmps[27]? = _:=H.vs 5 (by decide) d5
 have hk:=M.kb
 refine wpOpIn_of ho (by simp [Region.wanted,wguard_of ho (x:=none) (by kernel_rfl)]) (oIn_val (v:=C.val kb r 6) (w':=w) ?_ ?_)
 ·simp [execOp,hop,go_sem,WC.val,wVal,v4,v5,hk]
 ·rw [hd]
  exact ⟨r,H.put (i:=6) (by decide) hu (by decide) rfl (fun e=>by cases e) (fun e=>by cases e) (fun e=>by cases e) (fun _=>⟨d4,d5⟩) (fun e=>by cases e) (fun e=>by cases e) (fun e=>by cases e)⟩
theorem wst_7 (_M:WM C kb) (H:WI C J Jx kb r l a w) (hr:7∈Region.ready .any wOps l):wpOpIn Fence.wide n Tryz.prog wOps Q 7 (WE C J Jx kb (l.setIfInBounds 7 true)) a w:=by
 obtain ⟨hu,o,ho,_⟩:=mem_ready.1 hr
 have hop:o.op = .move (.tmp 28):=wop_of ho (by kernel_rfl)
 have hd:o.dst=some 29:=wdst_of ho (by kernel_rfl)
 have d6:on' l 6:=dep_of hr (d:=6) (by kernel_rfl)
 have v6:a.tmps[28]? = _:=H.vs 6 (by decide) d6
 refine wpOpIn_of ho (by simp [Region.wanted,wguard_of ho (x:=none) (by kernel_rfl)]) (oIn_val (v:=C.val kb r 7) (w':=w) ?_ ?_)
 ·simp [execOp,hop,go_sem,WC.val,wVal,v6]
 ·rw [hd]
  exact ⟨r,H.put (i:=7) (by decide) hu (by decide) rfl (fun e=>by cases e) (fun e=>by cases e) (fun e=>by cases e) (fun e=>by cases e) (fun _=>d6) (fun e=>by cases e) (fun e=>by cases e)⟩
theorem wst_8 (M:WM C kb) (H:WI C J Jx kb r l a w) (hr:8∈Region.ready .any wOps l):wpOpIn Fence.wide n Tryz.prog wOps Q 8 (WE C J Jx kb (l.setIfInBounds 8 true)) a w:=by
 obtain ⟨hu,o,ho,_⟩:=mem_ready.1 hr
 have hop:o.op = .move (.tmp 0):=wop_of ho (by kernel_rfl)
 have hd:o.dst=some 30:=wdst_of ho (by kernel_rfl)
 have d7:on' l 7:=dep_of hr (d:=7) (by kernel_rfl)
 have v7:a.tmps[29]? = _:=H.vs 7 (by decide) d7
 have h0:=(H.lo 0 (by decide)).trans M.t0
 have hw:=w_wanted H d7 (wguard_of ho (x:=some (7,true)) (by kernel_rfl))
 cases kb with
 | false =>
  refine wpOpIn_skip ho hw ?_
  rw [hd]
  exact ⟨r,H.put (i:=8) (by decide) hu (by decide) rfl (fun e=>by cases e) (fun e=>by cases e) (fun e=>by cases e) (fun e=>by cases e) (fun e=>by cases e) (fun e=>by cases e) (fun e=>by cases e)⟩
 | true =>
  refine wpOpIn_of ho hw (oIn_val (v:=C.val true r 8) (w':=w) ?_ ?_)
  ·simp [execOp,hop,go_sem,WC.val,wVal,h0]
  ·rw [hd]
   exact ⟨r,H.put (i:=8) (by decide) hu (by decide) rfl (fun e=>by cases e) (fun e=>by cases e) (fun e=>by cases e) (fun e=>by cases e) (fun e=>by cases e) (fun e=>by cases e) (fun e=>by cases e)⟩
theorem wst_9 (M:WM C kb) (H:WI C J Jx kb r l a w) (hr:9∈Region.ready .any wOps l):wpOpIn Fence.wide n Tryz.prog wOps Q 9 (WE C J Jx kb (l.setIfInBounds 9 true)) a w:=by
 obtain ⟨hu,o,ho,_⟩:=mem_ready.1 hr
 have hop:o.op = .move (.tmp 5):=wop_of ho (by kernel_rfl)
 have hd:o.dst=some 31:=wdst_of ho (by kernel_rfl)
 have d7:on' l 7:=dep_of hr (d:=7) (by kernel_rfl)
 have v7:a.tmps[29]? = _:=H.vs 7 (by decide) d7
 have h5:=(H.lo 5 (by decide)).trans M.t5
 have hw:=w_wanted H d7 (wguard_of ho (x:=some (7,true)) (by kernel_rfl))
 cases kb with
 | false =>
  refine wpOpIn_skip ho hw ?_
  rw [hd]
  exact ⟨r,H.put (i:=9) (by decide) hu (by decide) rfl (fun e=>by cases e) (fun e=>by cases e) (fun e=>by cases e) (fun e=>by cases e) (fun e=>by cases e) (fun e=>by cases e) (fun e=>by cases e)⟩
 | true =>
  refine wpOpIn_of ho hw (oIn_val (v:=C.val true r 9) (w':=w) ?_ ?_)
  ·simp [execOp,hop,go_sem,WC.val,wVal,h5]
  ·rw [hd]
   exact ⟨r,H.put (i:=9) (by decide) hu (by decide) rfl (fun e=>by cases e) (fun e=>by cases e) (fun e=>by cases e) (fun e=>by cases e) (fun e=>by cases e) (fun e=>by cases e) (fun e=>by cases e)⟩
theorem wst_11 (M:WM C kb) (H:WI C J Jx kb r l a w) (hr:11∈Region.ready .any wOps l):wpOpIn Fence.wide n Tryz.prog wOps Q 11 (WE C J Jx kb (l.setIfInBounds 11 true)) a w:=by
 obtain ⟨hu,o,ho,_⟩:=mem_ready.1 hr
 have hop:o.op = .unOp UnOp.not 4 (.tmp 32):=wop_of ho (by kernel_rfl)
 have hd:o.dst=some 33:=wdst_of ho (by kernel_rfl)
 have d7:on' l 7:=dep_of hr (d:=7) (by kernel_rfl)
 have v7:a.tmps[29]? = _:=H.vs 7 (by decide) d7
 have d10:on' l 10:=dep_of hr (d:=10) (by kernel_rfl)
 have v10:a.tmps[32]? = _:=H.vs 10 (by decide) d10
 have hw:=w_wanted H d7 (wguard_of ho (x:=some (7,true)) (by kernel_rfl))
 cases kb with
 | false =>
  refine wpOpIn_skip ho hw ?_
  rw [hd]
  exact ⟨r,H.put (i:=11) (by decide) hu (by decide) rfl (fun e=>by cases e) (fun e=>by cases e) (fun e=>by cases e) (fun e=>by cases e) (fun e=>by cases e) (fun _=>d10) (fun e=>by cases e)⟩
 | true =>
  refine wpOpIn_of ho hw (oIn_val (v:=C.val true r 11) (w':=w) ?_ ?_)
  ·simp [execOp,hop,go_sem,WC.val,wVal,v10]
  ·rw [hd]
   exact ⟨r,H.put (i:=11) (by decide) hu (by decide) rfl (fun e=>by cases e) (fun e=>by cases e) (fun e=>by cases e) (fun e=>by cases e) (fun e=>by cases e) (fun _=>d10) (fun e=>by cases e)⟩
theorem wst_12 (M:WM C kb) (H:WI C J Jx kb r l a w) (hr:12∈Region.ready .any wOps l):wpOpIn Fence.wide n Tryz.prog wOps Q 12 (WE C J Jx kb (l.setIfInBounds 12 true)) a w:=by
 obtain ⟨hu,o,ho,_⟩:=mem_ready.1 hr
 have hop:o.op = .pick (.tmp 29) (.tmp 33) (.const (.bool false)):=wop_of ho (by kernel_rfl)
 have hd:o.dst=some 34:=wdst_of ho (by kernel_rfl)
 have d7:on' l 7:=dep_of hr (d:=7) (by kernel_rfl)
 have v7:a.tmps[29]? = _:=H.vs 7 (by decide) d7
 have d11:on' l 11:=dep_of hr (d:=11) (by kernel_rfl)
 have v11:a.tmps[33]? = _:=H.vs 11 (by decide) d11
 refine wpOpIn_of ho (by simp [Region.wanted,wguard_of ho (x:=none) (by kernel_rfl)]) (oIn_val (v:=C.val kb r 12) (w':=w) ?_ ?_)
 ·simp [execOp,hop,go_sem,WC.val,wVal,v7,v11]
  cases kb <;> cases r <;> simp [go_sem]
 ·rw [hd]
  exact ⟨r,H.put (i:=12) (by decide) hu (by decide) rfl (fun e=>by cases e) (fun e=>by cases e) (fun e=>by cases e) (fun e=>by cases e) (fun e=>by cases e) (fun e=>by cases e) (fun _=>d11)⟩
theorem val_low {r':Bool} {i:Nat} (h:i < 10):C.val kb r i=C.val kb r' i:=by
 unfold WC.val
 match i,h with
 | 0,_=>rfl
 | 1,_=>rfl
 | 2,_=>rfl
 | 3,_=>rfl
 | 4,_=>rfl
 | 5,_=>rfl
 | 6,_=>rfl
 | 7,_=>rfl
 | 8,_=>rfl
 | 9,_=>rfl
 | n+10,h=>omega
theorem WI.called {r':Bool} {w':World} {v:Value} (H:WI C J Jx kb r l a w) (hu:l.getD 10 true=false) (hv:v=C.val kb r' 10) (d7:on' l 7)
  (w1:¬ kb=true→J C.pre w'∧Below C.n₀ C.W w') (w2:kb=true→(r'=true∧J (C.pre ++ [C.k]) w'∧Below C.n₀ C.W w')∨(r'=false∧Jx (C.pre ++ [C.k]) w')):WI C J Jx kb r' (l.setIfInBounds 10 true) (a.put (some 32) v) w':=by
 subst hv
 have hu':=not_on' hu
 have h11:¬ on' l 11:=fun h=>hu' (H.c11 h)
 have h12:¬ on' l 12:=fun h=>h11 (H.c12 h)
 have hk:∀ j,on' (l.setIfInBounds 10 true) j→j ≠ 10→on' l j:=fun j h e=>on'_back h e
 refine ⟨by simpa using H.sz,by simpa [Act.put] using H.ts,by simpa [Act.put] using H.df,fun x hx=>(put_ne' (by omega)).trans (H.lo x hx),fun j hj hon => ?_,fun h=>on'_set (H.c2 (hk _ h (by decide))),fun h=>on'_set (H.c3 (hk _ h (by decide))),fun h=>on'_set (H.c4 (hk _ h (by decide))),fun h => ?_,fun h=>on'_set (H.c7 (hk _ h (by decide))),fun _=>on'_set d7,fun h=>absurd (hk _ h (by decide)) h11,fun h=>absurd (hk _ h (by decide)) h12,fun h=>w1 fun hk1=>h ⟨hk1,on'_self (by rw [H.sz];decide)⟩,fun h1 _=>w2 h1⟩
 ·by_cases e:j=10
  ·subst e;exact put_same' (by rw [H.ts];decide)
  ·have ho:=hk j hon e
   have hj10:j < 10:=by
    rcases Nat.lt_or_ge j 10 with h | h
    ·exact h
    ·have:j=11∨j=12:=by omega
     rcases this with rfl | rfl
     ·exact absurd ho h11
     ·exact absurd ho h12
   rw [← val_low (r:=r) hj10]
   exact (put_ne' (by omega)).trans (H.vs j hj ho)
 ·have:=H.c6 (hk _ h (by decide));exact ⟨on'_set this.1,on'_set this.2⟩
theorem wst_10 (hY:∀ W,J C.pre W→YieldAt Fence.wide (n - 1) Tryz.prog C.l #[.int .i64 (C.k:Int)] W fun e W'=>(e = .returned (.bool true)∧J (C.pre ++ [C.k]) W'∧Below C.n₀ W W')∨(e = .returned (.bool false)∧Jx (C.pre ++ [C.k]) W'))
  (H:WI C J Jx kb r l a w) (hr:10∈Region.ready .any wOps l):wpOpIn Fence.wide n Tryz.prog wOps Q 10 (WE C J Jx kb (l.setIfInBounds 10 true)) a w:=by
 obtain ⟨hu,o,ho,_⟩:=mem_ready.1 hr
 have hop:o.op = .call { callee:=.value (.tmp 30),args:=#[.tmp 31],argTypes:=#[3] }:=wop_of ho (by kernel_rfl)
 have hd:o.dst=some 32:=wdst_of ho (by kernel_rfl)
 have d7:on' l 7:=dep_of hr (d:=7) (by kernel_rfl)
 have d8:on' l 8:=dep_of hr (d:=8) (by kernel_rfl)
 have d9:on' l 9:=dep_of hr (d:=9) (by kernel_rfl)
 have v8:a.tmps[30]? = _:=H.vs 8 (by decide) d8
 have v9:a.tmps[31]? = _:=H.vs 9 (by decide) d9
 have hw:=w_wanted H d7 (wguard_of ho (x:=some (7,true)) (by kernel_rfl))
 have hJ:=H.w1 fun h=>not_on' hu h.2
 cases kb with
 | false =>
  refine wpOpIn_skip ho hw ?_
  rw [hd]
  exact ⟨r,H.called hu rfl d7 (fun _=>hJ) (fun h=>by cases h)⟩
 | true =>
  refine wpOpIn_of ho hw (oIn_yield hop (ev' v8) (R:=fun e W'=>(e = .returned (.bool true)∧J (C.pre ++ [C.k]) W'∧Below C.n₀ w W')∨(e = .returned (.bool false)∧Jx (C.pre ++ [C.k]) W')) ?_ ?_)
  ·have e:(#[Operand.tmp 31].map a.eval) = #[.int .i64 (C.k:Int)]:=by
    simp only [List.map_toArray,List.map_cons,List.map_nil,ev' v9]
    rfl
   rw [e]
   exact hY w hJ.1
  ·rintro e W' (⟨rfl,h1,h2⟩ | ⟨rfl,h1⟩)
   ·refine ⟨_,rfl,true,?_⟩
    rw [hd]
    exact H.called hu rfl d7 (fun h=>absurd rfl h) (fun _ => .inl ⟨rfl,h1,hJ.2.trans h2⟩)
   ·refine ⟨_,rfl,false,?_⟩
    rw [hd]
    exact H.called hu rfl d7 (fun h=>absurd rfl h) (fun _ => .inr ⟨rfl,h1⟩)
theorem wOps_size:wOps.size=13:=by kernel_rfl
theorem wOps_fw:((List.range 13).all fun i=>((wOps[i]?).map fun o=>o.after.all fun e => !Region.binds .any e || decide (e.on < i)).getD true)=true:=by kernel_rfl
theorem with_region (M:WM C kb) (hY:∀ W,J C.pre W→YieldAt Fence.wide (n - 1) Tryz.prog C.l #[.int .i64 (C.k:Int)] W fun e W'=>(e = .returned (.bool true)∧J (C.pre ++ [C.k]) W'∧Below C.n₀ W W')∨(e = .returned (.bool false)∧Jx (C.pre ++ [C.k]) W'))
  (hsz:C.t0.size=35) (hdf:a.defers=[]) (hta:a.tmps=C.t0) (hJ:J C.pre (w.drewN 1)) (hb:Below C.n₀ C.W (w.drewN 1))
  (hQ:∀ (t:Array Value) (W:World) (r:Bool),t.size=35→(∀ x,x < 22→t[x]? = C.t0[x]?)→t[34]? = some (.bool (kb && !r))→(kb=false→J C.pre W∧Below C.n₀ C.W W)→(kb=true→(r=true∧J (C.pre ++ [C.k]) W∧Below C.n₀ C.W W)∨(r=false∧Jx (C.pre ++ [C.k]) W))→Q .normal { tmps:=t,defers:=[] } W) :
  (Code.region 5 wOps true).wpIn Fence.wide n Tryz.prog Q a w:=by
 refine wpIn_region_any (by kernel_rfl) ?_
 have hrep:Array.replicate wOps.size false=Array.replicate 13 false:=by rw [wOps_size]
 have hno:∀ i,¬ on' (Array.replicate 13 false) i:=fun i=>by
  unfold on'
  rw [Array.getD_eq_getD_getElem?,Array.getElem?_replicate]
  split <;> simp
 refine wpAnyIn_inv (WE C J Jx kb) (fun l a w hi hr => ?_) (fun l a w i hi hr => ?_) _ _ _ _ ?_ ?_
 ·obtain ⟨r,hi⟩:=hi
  have hall:∀ i,i < 13→on' l i:=fun i hlt=>by
   have:=all_listed' (by rw [hi.sz,wOps_size]) (fun i o ho e he hbd => ?_) hr i (by rw [wOps_size];exact hlt)
   ·unfold on'
    rw [Array.getD_eq_getD_getElem?,Array.getElem?_eq_getElem (by rw [hi.sz];exact hlt)] at this ⊢
    exact this
   ·have hl:=(Array.getElem?_eq_some_iff.1 ho).1
    rw [wOps_size] at hl
    have h1:=List.all_eq_true.1 wOps_fw i (List.mem_range.2 hl)
    rw [ho] at h1
    simp only [Option.map_some,Option.getD_some,Array.all_eq_true,Bool.or_eq_true,Bool.not_eq_true',decide_eq_true_eq] at h1
    obtain ⟨k,hk,rfl⟩:=Array.getElem_of_mem he
    rcases h1 k hk with h2 | h2
    ·rw [hbd] at h2;cases h2
    ·exact h2
  obtain ⟨t,d⟩:=a
  have hd:d=[]:=hi.df
  subst hd
  exact hQ t w r hi.ts hi.lo (hi.vs 12 (by decide) (hall 12 (by decide))) (fun h=>hi.w1 fun h'=>by rw [h] at h';cases h'.1) (fun h=>hi.w2 h (hall 10 (by decide)))
 ·obtain ⟨r,hi⟩:=hi
  have hlt:i < 13:=by
   obtain ⟨_,o,ho,_⟩:=mem_ready.1 hr
   have:=(Array.getElem?_eq_some_iff.1 ho).1
   rw [wOps_size] at this
   exact this
  match i,hlt,hr with
  | 0,_,hr=>exact wst_0 M hi hr
  | 1,_,hr=>exact wst_1 M hi hr
  | 2,_,hr=>exact wst_2 M hi hr
  | 3,_,hr=>exact wst_3 M hi hr
  | 4,_,hr=>exact wst_4 M hi hr
  | 5,_,hr=>exact wst_5 M hi hr
  | 6,_,hr=>exact wst_6 M hi hr
  | 7,_,hr=>exact wst_7 M hi hr
  | 8,_,hr=>exact wst_8 M hi hr
  | 9,_,hr=>exact wst_9 M hi hr
  | 10,_,hr=>exact wst_10 hY hi hr
  | 11,_,hr=>exact wst_11 M hi hr
  | 12,_,hr=>exact wst_12 M hi hr
  | n+13,hi,_=>exact absurd hi (by omega)
 ·rw [wOps_size]
  unfold unlisted
  refine Nat.le_trans List.countP_le_length ?_
  rw [List.length_range,wOps_size]
  exact Nat.le_refl _
 ·rw [hrep]
  exact ⟨false,by simp,by rw [hta];exact hsz,hdf,fun x _=>by rw [hta],fun i _ h=>absurd h (hno i),fun h=>absurd h (hno _),fun h=>absurd h (hno _),fun h=>absurd h (hno _),fun h=>absurd h (hno _),fun h=>absurd h (hno _),fun h=>absurd h (hno _),fun h=>absurd h (hno _),fun h=>absurd h (hno _),fun _=>⟨hJ,hb⟩,fun _ h=>absurd h (hno _)⟩
end
end
section
open Go Go.RowKit Go.Shelf Num
attribute [local go_sem] Oper.semAt_some
theorem arr35 (t:Array Value) (h:t.size=35):∃ x0 x1 x2 x3 x4 x5 x6 x7 x8 x9 x10 x11 x12 x13 x14 x15 x16 x17 x18 x19 x20 x21 x22 x23 x24 x25 x26 x27 x28 x29 x30 x31 x32 x33 x34,t = #[x0,x1,x2,x3,x4,x5,x6,x7,x8,x9,x10,x11,x12,x13,x14,x15,x16,x17,x18,x19,x20,x21,x22,x23,x24,x25,x26,x27,x28,x29,x30,x31,x32,x33,x34]:=by
 obtain ⟨l0⟩:=t
 have h0:l0.length=35:=h
 clear h
 obtain ⟨x0,l1,rfl,h1⟩:=len_succ h0
 obtain ⟨x1,l2,rfl,h2⟩:=len_succ h1
 obtain ⟨x2,l3,rfl,h3⟩:=len_succ h2
 obtain ⟨x3,l4,rfl,h4⟩:=len_succ h3
 obtain ⟨x4,l5,rfl,h5⟩:=len_succ h4
 obtain ⟨x5,l6,rfl,h6⟩:=len_succ h5
 obtain ⟨x6,l7,rfl,h7⟩:=len_succ h6
 obtain ⟨x7,l8,rfl,h8⟩:=len_succ h7
 obtain ⟨x8,l9,rfl,h9⟩:=len_succ h8
 obtain ⟨x9,l10,rfl,h10⟩:=len_succ h9
 obtain ⟨x10,l11,rfl,h11⟩:=len_succ h10
 obtain ⟨x11,l12,rfl,h12⟩:=len_succ h11
 obtain ⟨x12,l13,rfl,h13⟩:=len_succ h12
 obtain ⟨x13,l14,rfl,h14⟩:=len_succ h13
 obtain ⟨x14,l15,rfl,h15⟩:=len_succ h14
 obtain ⟨x15,l16,rfl,h16⟩:=len_succ h15
 obtain ⟨x16,l17,rfl,h17⟩:=len_succ h16
 obtain ⟨x17,l18,rfl,h18⟩:=len_succ h17
 obtain ⟨x18,l19,rfl,h19⟩:=len_succ h18
 obtain ⟨x19,l20,rfl,h20⟩:=len_succ h19
 obtain ⟨x20,l21,rfl,h21⟩:=len_succ h20
 obtain ⟨x21,l22,rfl,h22⟩:=len_succ h21
 obtain ⟨x22,l23,rfl,h23⟩:=len_succ h22
 obtain ⟨x23,l24,rfl,h24⟩:=len_succ h23
 obtain ⟨x24,l25,rfl,h25⟩:=len_succ h24
 obtain ⟨x25,l26,rfl,h26⟩:=len_succ h25
 obtain ⟨x26,l27,rfl,h27⟩:=len_succ h26
 obtain ⟨x27,l28,rfl,h28⟩:=len_succ h27
 obtain ⟨x28,l29,rfl,h29⟩:=len_succ h28
 obtain ⟨x29,l30,rfl,h30⟩:=len_succ h29
 obtain ⟨x30,l31,rfl,h31⟩:=len_succ h30
 obtain ⟨x31,l32,rfl,h32⟩:=len_succ h31
 obtain ⟨x32,l33,rfl,h33⟩:=len_succ h32
 obtain ⟨x33,l34,rfl,h34⟩:=len_succ h33
 obtain ⟨x34,l35,rfl,h35⟩:=len_succ h34
 obtain rfl:=List.length_eq_zero_iff.1 h35
 exact ⟨x0,x1,x2,x3,x4,x5,x6,x7,x8,x9,x10,x11,x12,x13,x14,x15,x16,x17,x18,x19,x20,x21,x22,x23,x24,x25,x26,x27,x28,x29,x30,x31,x32,x33,x34,rfl⟩
theorem with1_fwd (n:Nat) (l n₀:Nat) (xs:List FactV) (a:Option Addr) (c bl bk bs:Nat) (key:List UInt8) (J Jx:List Nat→World→Prop) (w W:World)
  (hY:∀ pre (x:Nat) W,J pre W→pre.length < xs.length→YieldAt Fence.wide (n - 1) Tryz.prog l #[.int .i64 (x:Int)] W fun e W'=>(e = .returned (.bool true)∧J (pre ++ [x]) W'∧Below n₀ W W')∨(e = .returned (.bool false)∧Jx (pre ++ [x]) W'))
  (hJd:∀ pre W k,J pre W→J pre (W.drewN k)) (hn0:w.heap.size=n₀) (hbw:Below n₀ w W) (hl:LogAt w a c xs) (h1:Box w bl #[.slice a xs.length c] 22) (h2:Box w bk #[.string ⟨key.toArray⟩] 9) (h3:Box w bs #[.int .i64 1] 3) (h0:J [] W) :
  CallsIn Fence.wide n Tryz.prog 84 #[.func (.yield l) #[] #[],.pointer (some ⟨bs,0,none⟩),.pointer (some ⟨bl,0,none⟩),.pointer (some ⟨bk,0,none⟩)] W fun e W'=>(∃ v,e = .returned v)∧(J (fwd (xs.map FactV.f) key xs.length 0) W'∨∃ pre x r,fwd (xs.map FactV.f) key xs.length 0=pre ++ x :: r∧Jx (pre ++ [x]) W'):=by
 have HY:=Lib.hid hY
 have HJD:=Lib.hid hJd
 have HL:=Lib.hid hl
 have H1:=Lib.hid h1
 have H2:=Lib.hid h2
 have H3:=Lib.hid h3
 have H0:=Lib.hid h0
 have hlen:=hl.len
 have hbw':Below w.heap.size w W:=by rw [hn0];exact hbw
 have k3:=(h3.below hbw').cell 0
 have k1:=(h1.below hbw').cell 0
 have HBWW:=Lib.hid hbw
 clear hbw hbw'
 clear hY hJd hl h1 h2 h3 h0
 refine callsIn_of_wp Tryz.func84 rfl trivial ?_ rfl
 simp only [Tryz.ntmps84,List.size_toArray,List.length_cons,List.length_nil,Nat.reduceAdd,Nat.reduceSub,Array.replicate_succ,Array.replicate_zero,List.push_toArray,List.append_toArray,List.nil_append,List.cons_append]
 gi_wp2
 gi_loopw [5] (fun iv wr => ∃ (k:Nat) (pre:List Nat),k≤xs.length∧iv = .int .i64 k∧pre.length≤k∧Hid (fwd (xs.map FactV.f) key xs.length 0=pre ++ fwd (xs.map FactV.f) key xs.length k)∧Hid (J pre wr)∧Hid (Below n₀ w wr)) (fun iv _=>xs.length - (intOf iv).toNat)
 case atStart=>exact ⟨0,[],Nat.zero_le _,rfl,Nat.le_refl _,rfl,H0,HBWW⟩
 case round =>
  obtain ⟨k,pre,hk,rfl,hpl,HS,HJ,HB⟩:=hrel
  clear k3 k1
  by_cases hlt:k < xs.length
  ·obtain ⟨x,hx⟩:∃ x,xs[k]? = some x:=⟨xs[k],List.getElem?_eq_getElem hlt⟩
   subst hn0
   have HBW:Hid (Below w.heap.size w wr):=HB
   have k1:=(H1.out.below HBW.out).cell 0
   have k2:=(H2.out.below HBW.out).cell 0
   have k3:=(H3.out.below HBW.out).cell 0
   obtain ⟨b,off,rfl,hbl,ck,_⟩:=(HL.out.below HBW.out).facts.cell hx
   have ck0:=(HL.out.facts.cell hx)
   obtain ⟨b',off',ea,hbl',ck',_⟩:=ck0
   injection ea with ea
   injection ea with e1 e2
   subst e1 e2
   have HX:=Lib.hid hx
   have hkx:keyAt (xs.map FactV.f) key k=(x.f.key == key):=by unfold keyAt;rw [List.getElem?_map,hx];rfl
   have HS2:=Lib.hid (HS.out.trans (by rw [fwd_at hlt,hkx]))
   clear ck hx hkx
   gi_wp2
   refine with_region (C:=⟨l,w.heap.size,w,b,off,xs.length,c,bl,bk,k,x.f.key,key,pre,_⟩) (kb:=x.f.key == key) (J:=J) (Jx:=Jx) ⟨rfl,rfl,rfl,rfl,H1.out.1,H2.out.1,hbl',H1.out.cell 0,H2.out.cell 0,ck',rfl,hlt,hlen⟩ (fun W' hJ'=>HY.out pre k W' hJ' (by omega)) rfl rfl rfl (HJD.out _ _ _ HJ.out) (below_drewN HB.out 1) ?_
   intro t W' r hts hlo h34 hn hy
   dsimp only at hlo hn hy
   obtain ⟨x0,x1,x2,x3,x4,x5,x6,x7,x8,x9,x10,x11,x12,x13,x14,x15,x16,x17,x18,x19,x20,x21,x22,x23,x24,x25,x26,x27,x28,x29,x30,x31,x32,x33,x34,rfl⟩:=arr35 t hts
   have q0:some x0=some (Value.func (.yield l) #[] #[]):=hlo 0 (by decide)
   have q1:some x1=some (Value.pointer (some ⟨bs,0,none⟩)):=hlo 1 (by decide)
   have q2:some x2=some (Value.pointer (some ⟨bl,0,none⟩)):=hlo 2 (by decide)
   have q3:some x3=some (Value.pointer (some ⟨bk,0,none⟩)):=hlo 3 (by decide)
   have q4:some x4=some undef:=hlo 4 (by decide)
   have q6:some x6=some (Value.int .i64 1):=hlo 6 (by decide)
   have q7:some x7=some (Value.bool false):=hlo 7 (by decide)
   have q8:some x8=some undef:=hlo 8 (by decide)
   have q9:some x9=some undef:=hlo 9 (by decide)
   have q10:some x10=some undef:=hlo 10 (by decide)
   have q5:some x5=some (Value.int .i64 (k:Int)):=hlo 5 (by decide)
   have h34:some x34=some (Value.bool ((x.f.key == key) && !r)):=h34
   obtain rfl:=Option.some.inj q0
   obtain rfl:=Option.some.inj q1
   obtain rfl:=Option.some.inj q2
   obtain rfl:=Option.some.inj q3
   obtain rfl:=Option.some.inj q5
   obtain rfl:=Option.some.inj q4
   obtain rfl:=Option.some.inj q6
   obtain rfl:=Option.some.inj q7
   obtain rfl:=Option.some.inj q8
   obtain rfl:=Option.some.inj q9
   obtain rfl:=Option.some.inj q10
   clear q0 q1 q2 q3 q4 q5 q6 q7 q8 q9 q10 hlo hts
   have HN:=Lib.hid hn
   have HYY:=Lib.hid hy
   clear hn hy
   cases hkey:(x.f.key == key) with
   | false =>
    rw [hkey,Bool.false_and] at h34
    obtain rfl:=Option.some.inj h34
    have HJ2:=Lib.hid (HN.out hkey).1
    have HB2:=Lib.hid (HN.out hkey).2
    have k3:=((H3.out.below HB2.out).cell 0).trans (show _=some (.int .i64 1) from rfl)
    have HS3:Hid (fwd (xs.map FactV.f) key xs.length 0=pre ++ fwd (xs.map FactV.f) key xs.length (k+1)):=by show _=_;rw [HS2.out,hkey];rfl
    clear HN HYY HS2 h34
    gi_wp2
    go_roundw
    case rel=>exact ⟨k+1,pre,by omega,by go_num,by omega,HS3,HJ2,HB2⟩
    case measure=>simp [intOf];omega
   | true =>
    rw [hkey,Bool.true_and] at h34
    rcases HYY.out hkey with ⟨rfl,hJ3,hB3⟩ | ⟨rfl,hJ3⟩
    ·rw [Bool.not_true] at h34
     obtain rfl:=Option.some.inj h34
     have HJ2:=Lib.hid hJ3
     have HB2:=Lib.hid hB3
     have k3:=((H3.out.below HB2.out).cell 0).trans (show _=some (.int .i64 1) from rfl)
     have HS3:Hid (fwd (xs.map FactV.f) key xs.length 0=(pre ++ [k]) ++ fwd (xs.map FactV.f) key xs.length (k+1)):=by show _=_;rw [HS2.out,hkey,if_pos rfl];simp
     clear HN HYY HS2 h34 hJ3 hB3
     gi_wp2
     go_roundw
     case rel=>exact ⟨k+1,pre ++ [k],by omega,by go_num,by simp;omega,HS3,HJ2,HB2⟩
     case measure=>simp [intOf];omega
    ·rw [Bool.not_false] at h34
     obtain rfl:=Option.some.inj h34
     have HS3:=Lib.hid (HS2.out.trans (by rw [hkey,if_pos rfl]))
     have HJ2:=Lib.hid hJ3
     clear HN HYY HS2 h34 hJ3
     gi_wp2
     refine bodyPost_ret (results_none rfl _ _ _) rfl ?_
     exact ⟨⟨_,rfl⟩,.inr ⟨pre,k,_,HS3.out,HJ2.out⟩⟩
  ·obtain rfl:k=xs.length:=by omega
   have HE:Hid (fwd (xs.map FactV.f) key xs.length 0=pre):=by show _=_;rw [HS.out,fwd_end,List.append_nil]
   subst hn0
   have k1:=(H1.out.below HB.out).cell 0
   clear HS
   gi_wp2
   go_end0
   exact ⟨⟨_,rfl⟩,.inl (by rw [HE.out];exact HJ.out)⟩
end
section
open Go Go.RowKit Go.Shelf Num
attribute [local go_sem] Oper.semAt_some
theorem with1_bwd (n:Nat) (l n₀:Nat) (xs:List FactV) (a:Option Addr) (c bl bk bs:Nat) (key:List UInt8) (J Jx:List Nat→World→Prop) (w W:World)
  (hY:∀ pre (x:Nat) W,J pre W→pre.length < xs.length→YieldAt Fence.wide (n - 1) Tryz.prog l #[.int .i64 (x:Int)] W fun e W'=>(e = .returned (.bool true)∧J (pre ++ [x]) W'∧Below n₀ W W')∨(e = .returned (.bool false)∧Jx (pre ++ [x]) W'))
  (hJd:∀ pre W k,J pre W→J pre (W.drewN k)) (hn0:w.heap.size=n₀) (hbw:Below n₀ w W) (hl:LogAt w a c xs) (h1:Box w bl #[.slice a xs.length c] 22) (h2:Box w bk #[.string ⟨key.toArray⟩] 9) (h3:Box w bs #[.int .i64 (-1)] 3) (h0:J [] W) :
  CallsIn Fence.wide n Tryz.prog 84 #[.func (.yield l) #[] #[],.pointer (some ⟨bs,0,none⟩),.pointer (some ⟨bl,0,none⟩),.pointer (some ⟨bk,0,none⟩)] W fun e W'=>(∃ v,e = .returned v)∧(J (bwd (xs.map FactV.f) key xs.length) W'∨∃ pre x r,bwd (xs.map FactV.f) key xs.length=pre ++ x :: r∧Jx (pre ++ [x]) W'):=by
 have HY:=Lib.hid hY
 have HJD:=Lib.hid hJd
 have HL:=Lib.hid hl
 have H1:=Lib.hid h1
 have H2:=Lib.hid h2
 have H3:=Lib.hid h3
 have H0:=Lib.hid h0
 have hlen:=hl.len
 have hbw':Below w.heap.size w W:=by rw [hn0];exact hbw
 have k3:=(h3.below hbw').cell 0
 have k1:=(h1.below hbw').cell 0
 have HBWW:=Lib.hid hbw
 clear hbw hbw'
 clear hY hJd hl h1 h2 h3 h0
 refine callsIn_of_wp Tryz.func84 rfl trivial ?_ rfl
 simp only [Tryz.ntmps84,List.size_toArray,List.length_cons,List.length_nil,Nat.reduceAdd,Nat.reduceSub,Array.replicate_succ,Array.replicate_zero,List.push_toArray,List.append_toArray,List.nil_append,List.cons_append]
 gi_wp2
 gi_loopw [5] (fun iv wr => ∃ (k:Nat) (pre:List Nat),k≤xs.length∧iv = .int .i64 ((k:Int) - 1)∧pre.length+k≤xs.length∧Hid (bwd (xs.map FactV.f) key xs.length=pre ++ bwd (xs.map FactV.f) key k)∧Hid (J pre wr)∧Hid (Below n₀ w wr)) (fun iv _=>(intOf iv+1).toNat)
 case atStart=>exact ⟨xs.length,[],Nat.le_refl _,rfl,by simp,rfl,H0,HBWW⟩
 case round =>
  obtain ⟨k',pre,hk,rfl,hpl,HS,HJ,HB⟩:=hrel
  clear k3 k1
  rcases (show (∃ k,k'=k+1)∨k'=0 by cases k' with | zero=>exact .inr rfl | succ k=>exact .inl ⟨k,rfl⟩) with ⟨k,rfl⟩ | rfl
  ·have hki:(((k+1:Nat):Int) - 1)=(k:Int):=by omega
   rw [hki]
   clear hki
   have hlt:k < xs.length:=by omega
   obtain ⟨x,hx⟩:∃ x,xs[k]? = some x:=⟨xs[k],List.getElem?_eq_getElem hlt⟩
   subst hn0
   have HBW:Hid (Below w.heap.size w wr):=HB
   have k1:=(H1.out.below HBW.out).cell 0
   have k2:=(H2.out.below HBW.out).cell 0
   have k3:=(H3.out.below HBW.out).cell 0
   obtain ⟨b,off,rfl,hbl,ck,_⟩:=(HL.out.below HBW.out).facts.cell hx
   have ck0:=(HL.out.facts.cell hx)
   obtain ⟨b',off',ea,hbl',ck',_⟩:=ck0
   injection ea with ea
   injection ea with e1 e2
   subst e1 e2
   have HX:=Lib.hid hx
   have hkx:keyAt (xs.map FactV.f) key k=(x.f.key == key):=by unfold keyAt;rw [List.getElem?_map,hx];rfl
   have HS2:Hid (bwd (xs.map FactV.f) key xs.length=pre ++ (if (x.f.key == key)=true then k :: bwd (xs.map FactV.f) key k else bwd (xs.map FactV.f) key k)):=by show _=_;rw [HS.out,← hkx];rfl
   clear ck hx hkx
   gi_wp2
   refine with_region (C:=⟨l,w.heap.size,w,b,off,xs.length,c,bl,bk,k,x.f.key,key,pre,_⟩) (kb:=x.f.key == key) (J:=J) (Jx:=Jx) ⟨rfl,rfl,rfl,rfl,H1.out.1,H2.out.1,hbl',H1.out.cell 0,H2.out.cell 0,ck',rfl,hlt,hlen⟩ (fun W' hJ'=>HY.out pre k W' hJ' (by omega)) rfl rfl rfl (HJD.out _ _ _ HJ.out) (below_drewN HB.out 1) ?_
   intro t W' r hts hlo h34 hn hy
   dsimp only at hlo hn hy
   obtain ⟨x0,x1,x2,x3,x4,x5,x6,x7,x8,x9,x10,x11,x12,x13,x14,x15,x16,x17,x18,x19,x20,x21,x22,x23,x24,x25,x26,x27,x28,x29,x30,x31,x32,x33,x34,rfl⟩:=arr35 t hts
   have q0:some x0=some (Value.func (.yield l) #[] #[]):=hlo 0 (by decide)
   have q1:some x1=some (Value.pointer (some ⟨bs,0,none⟩)):=hlo 1 (by decide)
   have q2:some x2=some (Value.pointer (some ⟨bl,0,none⟩)):=hlo 2 (by decide)
   have q3:some x3=some (Value.pointer (some ⟨bk,0,none⟩)):=hlo 3 (by decide)
   have q4:some x4=some undef:=hlo 4 (by decide)
   have q6:some x6=some (Value.int .i64 (-1)):=hlo 6 (by decide)
   have q7:some x7=some (Value.bool true):=hlo 7 (by decide)
   have q8:some x8=some (Value.slice (some ⟨b,off,none⟩) xs.length c):=hlo 8 (by decide)
   have q9:some x9=some (Value.int .i64 (xs.length:Int)):=hlo 9 (by decide)
   have q10:some x10=some (Value.int .i64 ((xs.length:Int) - 1)):=hlo 10 (by decide)
   have q5:some x5=some (Value.int .i64 (k:Int)):=hlo 5 (by decide)
   have h34:some x34=some (Value.bool ((x.f.key == key) && !r)):=h34
   obtain rfl:=Option.some.inj q0
   obtain rfl:=Option.some.inj q1
   obtain rfl:=Option.some.inj q2
   obtain rfl:=Option.some.inj q3
   obtain rfl:=Option.some.inj q5
   obtain rfl:=Option.some.inj q4
   obtain rfl:=Option.some.inj q6
   obtain rfl:=Option.some.inj q7
   obtain rfl:=Option.some.inj q8
   obtain rfl:=Option.some.inj q9
   obtain rfl:=Option.some.inj q10
   clear q0 q1 q2 q3 q4 q5 q6 q7 q8 q9 q10 hlo hts
   have HN:=Lib.hid hn
   have HYY:=Lib.hid hy
   clear hn hy
   cases hkey:(x.f.key == key) with
   | false =>
    rw [hkey,Bool.false_and] at h34
    obtain rfl:=Option.some.inj h34
    have HJ2:=Lib.hid (HN.out hkey).1
    have HB2:=Lib.hid (HN.out hkey).2
    have k3:=((H3.out.below HB2.out).cell 0).trans (show _=some (.int .i64 (-1)) from rfl)
    have HS3:Hid (bwd (xs.map FactV.f) key xs.length=pre ++ bwd (xs.map FactV.f) key k):=by show _=_;rw [HS2.out,hkey];rfl
    clear HN HYY HS2 h34
    gi_wp2
    go_roundw
    case rel=>exact ⟨k,pre,by omega,by go_num,by omega,HS3,HJ2,HB2⟩
    case measure=>simp [intOf];omega
   | true =>
    rw [hkey,Bool.true_and] at h34
    rcases HYY.out hkey with ⟨rfl,hJ3,hB3⟩ | ⟨rfl,hJ3⟩
    ·rw [Bool.not_true] at h34
     obtain rfl:=Option.some.inj h34
     have HJ2:=Lib.hid hJ3
     have HB2:=Lib.hid hB3
     have k3:=((H3.out.below HB2.out).cell 0).trans (show _=some (.int .i64 (-1)) from rfl)
     have HS3:Hid (bwd (xs.map FactV.f) key xs.length=(pre ++ [k]) ++ bwd (xs.map FactV.f) key k):=by show _=_;rw [HS2.out,hkey,if_pos rfl];simp
     clear HN HYY HS2 h34 hJ3 hB3
     gi_wp2
     go_roundw
     case rel=>exact ⟨k,pre ++ [k],by omega,by go_num,by simp;omega,HS3,HJ2,HB2⟩
     case measure=>simp [intOf];omega
    ·rw [Bool.not_false] at h34
     obtain rfl:=Option.some.inj h34
     have HS3:=Lib.hid (HS2.out.trans (by rw [hkey,if_pos rfl]))
     have HJ2:=Lib.hid hJ3
     clear HN HYY HS2 h34 hJ3
     gi_wp2
     refine bodyPost_ret (results_none rfl _ _ _) rfl ?_
     exact ⟨⟨_,rfl⟩,.inr ⟨pre,k,_,HS3.out,HJ2.out⟩⟩
  ·have HE:Hid (bwd (xs.map FactV.f) key xs.length=pre):=by show _=_;rw [HS.out];exact List.append_nil _
   subst hn0
   have k1:=(H1.out.below HB.out).cell 0
   clear HS
   gi_wp2
   go_end0
   exact ⟨⟨_,rfl⟩,.inl (by rw [HE.out];exact HJ.out)⟩
end
end Go.Proofs.YtgopbldkhlmbnaaGreatDoor
