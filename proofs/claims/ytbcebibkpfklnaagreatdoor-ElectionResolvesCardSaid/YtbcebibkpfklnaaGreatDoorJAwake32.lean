/- Awake32A Awake32 -/
import Derived.Test.YtbcebibkpfklnaaGreatDoorJLate
import Derived.Test.YtbcebibkpfklnaaGreatDoorJRowF
import Derived.Lib.SliceRun
set_option maxHeartbeats 16000000
set_option maxRecDepth 100000
namespace Go.Proofs.YtbcebibkpfklnaaGreatDoor
section
open Go Go.RowKit Num
def elF (key:List UInt8) (d ch:Int):FactP:=⟨key,0,false,d,11,[97,98,99],[],[],[109],[],[],[],⟨[],[]⟩,⟨[],[]⟩,⟨[],[]⟩,[],[],ch⟩
def elV (key:List UInt8) (d ch:Int):FactV:=⟨elF key d ch,none,0,none,0⟩
def exF:FactP:=⟨[109],0,false,20,10,[97,98,99],[],[],[],[],[],[],⟨[],[]⟩,⟨[],[]⟩,⟨[],[]⟩,[],[⟨[],⟨[],[]⟩,⟨[53],[]⟩,⟨[],[]⟩⟩,⟨[],⟨[],[]⟩,⟨[54],[]⟩,⟨[],[]⟩⟩],0⟩
def exV (g:Nat):FactV:=⟨exF,none,0,some ⟨g,0,none⟩,2⟩
def exRow (g:Nat):List FactV:=[elV [97] 15 1,elV [98] 18 0,exV g]
theorem el_ok (key:List UInt8) (d ch:Int) (h:key.length≤1000):(elV key d ch).ok:=by
 refine ⟨⟨h,by simp [elV,elF],by simp [elV,elF],by simp [elV,elF],by simp [elV,elF],by simp [elV,elF],by simp [elV,elF],by simp [elV,elF],⟨by simp [elV,elF],by simp [elV,elF]⟩,⟨by simp [elV,elF],by simp [elV,elF]⟩,⟨by simp [elV,elF],by simp [elV,elF]⟩,by simp [elV,elF],fun p hp => ?_,by simp [elV,elF],fun o ho => ?_⟩,by simp [elV,elF]⟩
 ·cases hp
 ·cases ho
theorem ex_ok (g:Nat):(exV g).ok:=by
 refine ⟨⟨by simp [exV,exF],by simp [exV,exF],by simp [exV,exF],by simp [exV,exF],by simp [exV,exF],by simp [exV,exF],by simp [exV,exF],by simp [exV,exF],⟨by simp [exV,exF],by simp [exV,exF]⟩,⟨by simp [exV,exF],by simp [exV,exF]⟩,⟨by simp [exV,exF],by simp [exV,exF]⟩,by simp [exV,exF],fun p hp => ?_,by simp [exV,exF],fun o ho => ?_⟩,by simp [exV,exF]⟩
 ·cases hp
 ·have:o=⟨[],⟨[],[]⟩,⟨[53],[]⟩,⟨[],[]⟩⟩∨o=⟨[],⟨[],[]⟩,⟨[54],[]⟩,⟨[],[]⟩⟩:=by simpa [exV,exF] using ho
  rcases this with rfl | rfl <;> exact ⟨by simp,⟨by simp,by simp⟩,⟨by simp,by simp⟩,⟨by simp,by simp⟩⟩
theorem el_behind (key:List UInt8) (d ch:Int) (w:World):(elV key d ch).f.Behind w none none:=⟨.inl rfl,.inl rfl⟩
def exCells:List Value:=[.string ⟨#[]⟩,.string ⟨#[]⟩,.string ⟨#[]⟩,.string ⟨#[53]⟩,.string ⟨#[]⟩,.string ⟨#[]⟩,.string ⟨#[]⟩,.string ⟨#[]⟩,.string ⟨#[]⟩,.string ⟨#[]⟩,.string ⟨#[54]⟩,.string ⟨#[]⟩,.string ⟨#[]⟩,.string ⟨#[]⟩]
theorem ex_behind {g:Nat} {w:World} (h:Box w g exCells.toArray 42):(exV g).f.Behind w none (some ⟨g,0,none⟩):=by
 refine ⟨.inl rfl,.inr ⟨g,0,rfl,h.1,fun k cs hk j v hv => ?_⟩⟩
 have hc:=h.cell (0+k * 7+j)
 rw [hc]
 have hk':[[Value.string ⟨#[]⟩,.string ⟨#[]⟩,.string ⟨#[]⟩,.string ⟨#[53]⟩,.string ⟨#[]⟩,.string ⟨#[]⟩,.string ⟨#[]⟩],[.string ⟨#[]⟩,.string ⟨#[]⟩,.string ⟨#[]⟩,.string ⟨#[54]⟩,.string ⟨#[]⟩,.string ⟨#[]⟩,.string ⟨#[]⟩]][k]? = some cs:=hk
 match k,hk' with
 | 0,e =>
  obtain rfl:=Option.some.inj e
  match j,hv with
  | 0,hv | 1,hv | 2,hv | 3,hv | 4,hv | 5,hv | 6,hv=>exact hv
  | j+7,hv=>simp at hv
 | 1,e =>
  obtain rfl:=Option.some.inj e
  match j,hv with
  | 0,hv | 1,hv | 2,hv | 3,hv | 4,hv | 5,hv | 6,hv=>exact hv
  | j+7,hv=>simp at hv
 | k+2,e=>simp at e
theorem elect_any (key:List UInt8) (d ch:Int) (w:World) :
  Calls Tryz.prog 36 #[.string ⟨key.toArray⟩,.int .i64 d,.int .i64 ch] w fun e w'=>e = .returned (.agg (elV key d ch).arr)∧Below w.heap.size w w':=by
 have KZ:=Lib.hid (Box.new0 w Z21 30)
 have HB:=Lib.hid (below_alloc w (.cells Z21 30))
 have HSZ:Hid ((Tryz.prog.info? 30).map (·.size)=some (elV key d ch).arr.size):=factInfo21
 have HS2:Hid (Z21.size=(elV key d ch).arr.size):=rfl
 have HONE:=Lib.hid (cells_one (elV key d ch))
 obtain ⟨cs,hcs⟩:∃ cs,cs=(elV key d ch).arr:=⟨_,rfl⟩
 rw [← hcs] at HSZ HS2 HONE ⊢
 have HCS:=Lib.hid hcs
 clear hcs
 go_enter Tryz.func36,Tryz.ntmps36
 go_wp2_with (refine wpList_store_row rfl 30 _ _ rfl w.heap.size cs rfl (by rw [HCS.out];rfl) 30 Z21 KZ.out.2 HSZ.out HS2.out HONE.out ?_)
 refine bodyPost_ret (v:=.agg cs) (results_cell_row Tryz.results36 _ _ w.heap.size 30 cs (0,0) _ rfl (setRow_heap _ _ _ _ _ _ KZ.out.2) Tryz.underlying30 rfl HSZ.out) rfl ⟨rfl,?_⟩
 exact below_setRow HB.out (Nat.le_refl _) cs
theorem exchangeEx_any (w:World) :
  Calls Tryz.prog 37 #[] w fun e w' => ∃ g,e = .returned (.agg (exV g).arr)∧Box w' g exCells.toArray 42∧Below w.heap.size w w':=by
 have KZ:=(Box.new0 w Z21 30).below (below_alloc _ (.cells exCells.toArray 42))
 have KX:=Box.new0 (w.alloc (.cells Z21 30)) exCells.toArray 42
 rw [World.size_alloc] at KX
 have KZ:=Lib.hid KZ
 have KX:=Lib.hid KX
 have HB:=Lib.hid (below_up (below_alloc w (.cells Z21 30)) (below_alloc _ (.cells exCells.toArray 42)))
 have HSZ:Hid ((Tryz.prog.info? 30).map (·.size)=some (exV (w.heap.size+1)).arr.size):=factInfo21
 have HS2:Hid (Z21.size=(exV (w.heap.size+1)).arr.size):=rfl
 have HONE:=Lib.hid (cells_one (exV (w.heap.size+1)))
 obtain ⟨cs,hcs⟩:∃ cs,cs=(exV (w.heap.size+1)).arr:=⟨_,rfl⟩
 rw [← hcs] at HSZ HS2 HONE
 have HCS:=Lib.hid hcs
 clear hcs
 go_enter Tryz.func37,Tryz.ntmps37
 go_wp2_with (refine wpList_store_row rfl 30 _ _ rfl w.heap.size cs rfl (by rw [HCS.out];rfl) 30 Z21 KZ.out.2 HSZ.out HS2.out HONE.out ?_)
 refine bodyPost_ret (v:=.agg cs) (results_cell_row Tryz.results37 _ _ w.heap.size 30 cs (0,0) _ rfl (setRow_heap _ _ _ _ _ _ KZ.out.2) Tryz.underlying30 rfl HSZ.out) rfl ⟨w.heap.size+1,by rw [HCS.out],box_setRow KX.out (by omega),?_⟩
 exact below_setRow HB.out (Nat.le_refl _) cs
def exFs:List FactP:=[elF [97] 15 1,elF [98] 18 0,exF]
theorem exRow_f (g:Nat):(exRow g).map FactV.f=exFs:=rfl
theorem exFs_check:vcheck exFs=0:=by decide +kernel
theorem exFs_choice:choiceV exFs exF=0∧choiceErr exFs exF=0:=by decide +kernel
theorem exFs_choice1:choiceV (exFs.take 1) exF=1∧choiceErr (exFs.take 1) exF=0:=by decide +kernel
theorem exFs_late:lateKeys exFs=[[97]]:=by decide +kernel
end
section
open Go Go.RowKit Num
theorem run_threeV (x y z:FactV) (w:World):(Instr.buildSlice 22 3 #[(0,.agg x.arr),(1,.agg y.arr),(2,.agg z.arr)]).run Tryz.prog w = .ok (.slice (some ⟨w.heap.size,0,none⟩) 3 3) (w.alloc (.cells (x.arr ++ y.arr ++ z.arr) 30)):=by
 unfold FactV.arr FactP.cells
 simp [go_sem]
theorem wpList_sliceV {P:Program} {ops:Array Oper} {rest:List Oper} {o:Oper} {a:Act} {w w':World} {Q:Exit→Act→World→Prop} (hgd:o.guard=none) (t:TypeId) (n:Nat) (ps:Array (Nat × Operand)) (ho:o.op = .buildSlice t n ps) (qs:Array (Nat × Value)) (v:Value)
  (hps:(ps.map fun (i,x)=>(i,a.eval x))=qs) (hrun:(Instr.buildSlice t n qs).run P w = .ok v w') (h:wpList P ops Q rest (a.put o.dst v) w'):wpList P ops Q (o :: rest) a w:=by
 refine wpList_plain hgd fun K hK=>o_slice ho (v:=v) (w':=w') ?_ (hK _ _ h)
 rw [hps]
 exact hrun
theorem three_facts {w:World} {B:Nat} (x y z:FactV) (h:w.heap[B]? = some (.cells (x.arr ++ y.arr ++ z.arr) 30 (0,0))):SRows w (some ⟨B,0,none⟩) 21 ([x,y,z].map FactV.cells):=by
 refine srows_of_row (by decide) cells21 (.inr ⟨B,0,rfl,(Array.getElem?_eq_some_iff.1 h).1,fun j v hv => ?_⟩)
 rw [cell_at h,← hv,← Array.getElem?_toList]
 simp [FactV.cells]
noncomputable def awOps:Array Oper:=(Tryz.f11.body.bind (regIn 3)).getD #[]
def awDs:List (Nat × Nat):=[(0,19),(1,20),(2,21),(3,22),(4,18),(5,23),(6,24),(7,4),(8,5)]
structure AwC where
 W0:World
 B:Nat
def awV (B:Nat):Nat→Value
 | 0 => .slice (some ⟨B,0,none⟩) 3 3
 | 1 => .slice (some ⟨B,0,none⟩) 1 3
 | 3 => .tuple #[.int .i64 1,.int .i64 0]
 | 4 => .tuple #[.int .i64 1,.int .i64 0]
 | 5 => .int .i64 1
 | 6 => .int .i64 0
 | 7 => .int .i64 1
 | _ => .int .i64 0
def AwC.val (C:AwC) (γ:Nat) (j:Nat):Value:=if j=2 then .agg (exV γ).arr else awV C.B j
def AwC.g (C:AwC) (γ:Nat) (l:Array Bool) (W:World):Prop:=Below C.W0.heap.size C.W0 W∧(on' l 2→Box W γ exCells.toArray 42)
section
variable {C:AwC} {t0:Array Value} {Q:Exit→Act→World→Prop} {l:Array Bool} {w:World} {γ:Nat}
theorem AwC.keep {i:Nat} (hi:i ≠ 2) (h:C.g γ l w):C.g γ (l.setIfInBounds i true) w:=⟨h.1,fun h2=>h.2 (on'_back h2 (Ne.symm hi))⟩
theorem aw_region (hsz0:t0.size=48) (ht1:t0[1]? = some (.slice (some ⟨C.B,0,none⟩) 3 3)) (hch:∀ g W,Below C.W0.heap.size C.W0 W→Box W g exCells.toArray 42→Calls Tryz.prog 12 #[.slice (some ⟨C.B,0,none⟩) 1 3,.agg (exV g).arr] W fun e w'=>e = .returned (.tuple #[.int .i64 1,.int .i64 0])∧Below W.heap.size W w')
  {a:Act} (hdf:a.defers=[]) (ht:a.tmps=t0) (hw:w.drewN 1=C.W0)
  (hQ:∀ γ W,Below C.W0.heap.size C.W0 W→Q .normal { tmps:=layT (C.val γ) awDs t0,defers:=[] } W):(Code.region 3 awOps true).wp Tryz.prog Q a w:=by
 have hsz:awOps.size=9:=by kernel_rfl
 refine flow_region (ds:=awDs) (val:=C.val) (G:=C.g) (by kernel_rfl) (by kernel_rfl) (by decide) (fun p hp => ?_) (by kernel_rfl) ?_ (γ:=0) hdf ht ⟨by rw [hw];exact Below.refl _ _,fun h=>absurd h (no_on _ _)⟩ (fun γ _ W _ hg=>hQ γ W hg.1)
 ·rw [hsz0]
  have:∀ p,p∈awDs→p.2 < 48:=by decide
  exact this p hp
 ·intro γ l a w i H hr
  have hi:i < 9:=by
   obtain ⟨_,o,ho,_⟩:=mem_ready.1 hr
   have:=(Array.getElem?_eq_some_iff.1 ho).1
   rw [hsz] at this
   exact this
  have t1:=H.low (s:=1) (by decide) ht1
  match i,hi,hr with
  | 0,_,hr=>exact flow_val (X:=.move (.tmp 1)) (by kernel_rfl) (fun o h=>by simp [execOp,h,t1,go_sem];rfl) rfl (AwC.keep (by decide) H.g)
  | 1,_,hr =>
   have v0:a.tmps[19]? = some (.slice (some ⟨C.B,0,none⟩) 3 3):=H.dep hr 0 19 (by kernel_rfl) ⟨rfl,by decide⟩
   exact flow_val (X:=.slice 22 (.tmp 19) none (some (.const (.int .i64 1))) none) (by kernel_rfl) (fun o h=>by simp [execOp,h,v0,go_sem];rfl) rfl (AwC.keep (by decide) H.g)
  | 2,_,hr =>
   refine flow_call (f:=37) (lb:=#[]) (c:=.func 37) (args:=#[]) (ts:=#[]) (vs:=#[]) (by kernel_rfl) rfl (enters_of Tryz.func37 (by kernel_rfl) rfl) (by simp) ((exchangeEx_any _).mono ?_)
   rintro e w' ⟨g,rfl,hx,hb⟩
   refine ⟨_,g,rfl,rfl,fun j hj => ?_,below_up H.g.1 hb,fun _=>hx⟩
   have:j ≠ 2:=fun e=>not_on' (mem_ready.1 hr).1 (e ▸ hj)
   unfold AwC.val
   rw [if_neg this,if_neg this]
  | 3,_,hr =>
   have v1:a.tmps[20]? = some (.slice (some ⟨C.B,0,none⟩) 1 3):=H.dep hr 1 20 (by kernel_rfl) ⟨rfl,by decide⟩
   have v2:a.tmps[21]? = some (.agg (exV γ).arr):=H.dep hr 2 21 (by kernel_rfl) ⟨rfl,by decide⟩
   have hx:=H.g.2 (dep_of hr (d:=2) (by kernel_rfl))
   refine flow_call (f:=12) (lb:=#[]) (c:=.func 12) (args:=#[.tmp 20,.tmp 21]) (ts:=#[22,30]) (vs:=#[.slice (some ⟨C.B,0,none⟩) 1 3,.agg (exV γ).arr]) (by kernel_rfl) rfl (enters_of Tryz.func12 (by kernel_rfl) rfl) (by simp [Act.eval,v1,v2]) ((hch γ _ H.g.1 hx).mono ?_)
   rintro e w' ⟨rfl,hb⟩
   exact ⟨_,γ,rfl,rfl,fun _ _=>rfl,below_up H.g.1 hb,fun _=>hx.below hb⟩
  | 4,_,hr =>
   have v0:a.tmps[22]? = some (.tuple #[.int .i64 1,.int .i64 0]):=H.dep hr 3 22 (by kernel_rfl) ⟨rfl,by decide⟩
   exact flow_val (X:=.move (.tmp 22)) (by kernel_rfl) (fun o h=>by simp [execOp,h,v0,go_sem];rfl) rfl (AwC.keep (by decide) H.g)
  | 5,_,hr =>
   have v0:a.tmps[18]? = some (.tuple #[.int .i64 1,.int .i64 0]):=H.dep hr 4 18 (by kernel_rfl) ⟨rfl,by decide⟩
   exact flow_val (X:=.extract (.tmp 18) 0) (by kernel_rfl) (fun o h=>by simp [execOp,h,v0,go_sem];rfl) rfl (AwC.keep (by decide) H.g)
  | 6,_,hr =>
   have v0:a.tmps[18]? = some (.tuple #[.int .i64 1,.int .i64 0]):=H.dep hr 4 18 (by kernel_rfl) ⟨rfl,by decide⟩
   exact flow_val (X:=.extract (.tmp 18) 1) (by kernel_rfl) (fun o h=>by simp [execOp,h,v0,go_sem];rfl) rfl (AwC.keep (by decide) H.g)
  | 7,_,hr =>
   have v0:a.tmps[23]? = some (.int .i64 1):=H.dep hr 5 23 (by kernel_rfl) ⟨rfl,by decide⟩
   exact flow_val (X:=.assign (.tmp 23)) (by kernel_rfl) (fun o h=>by simp [execOp,h,v0,go_sem];rfl) rfl (AwC.keep (by decide) H.g)
  | 8,_,hr =>
   have v0:a.tmps[24]? = some (.int .i64 0):=H.dep hr 6 24 (by kernel_rfl) ⟨rfl,by decide⟩
   exact flow_val (X:=.assign (.tmp 24)) (by kernel_rfl) (fun o h=>by simp [execOp,h,v0,go_sem];rfl) rfl (AwC.keep (by decide) H.g)
  | n+9,h,_=>exact absurd h (by omega)
end
theorem awake32_any (w:World) (hE:Env w):Calls Tryz.prog 11 #[] w fun e w'=>e = .returned (.bool true)∧Below w.heap.size w w':=by
 have HE:=Lib.hid hE
 clear hE
 go_enter Tryz.func11,Tryz.ntmps11
 go_wp2_with fail
 refine (elect_any [97] 15 1 _).mono ?_
 rintro e w1 ⟨rfl,hb⟩
 have HB:=Lib.hid hb
 clear hb
 go_wp2_with fail
 refine (elect_any [98] 18 0 _).mono ?_
 rintro e w2 ⟨rfl,hb⟩
 have HB:=Lib.hid (below_up HB.out hb)
 clear hb
 go_wp2_with fail
 refine (exchangeEx_any _).mono ?_
 rintro e w3 ⟨g0,rfl,hx0,hb⟩
 have HB:=Lib.hid (below_up HB.out hb)
 clear hb
 obtain ⟨w4,hw4⟩:∃ w4,w4=w3.alloc (.cells ((elV [97] 15 1).arr ++ (elV [98] 18 0).arr ++ (exV g0).arr) 30):=⟨_,rfl⟩
 have HRUN:=run_threeV (elV [97] 15 1) (elV [98] 18 0) (exV g0) w3
 rw [← hw4] at HRUN
 have HRUN:=Lib.hid HRUN
 have HB:=Lib.hid (show Below w.heap.size w w4 by rw [hw4];exact below_up HB.out (below_alloc _ _))
 have hx4:Box w4 g0 exCells.toArray 42:=by rw [hw4];exact hx0.below (below_alloc _ _)
 have HV:Hid (ViewAt w4 (some ⟨w3.heap.size,0,none⟩) 3 (exRow g0)):=by
  refine ⟨⟨?_,fun x hx => ?_⟩,fun x hx => ?_,by show 3≤_;decide⟩
  ·exact three_facts _ _ _ (by rw [hw4];exact heap_alloc_new w3 _)
  ·have:x=elV [97] 15 1∨x=elV [98] 18 0∨x=exV g0:=by simpa [exRow] using hx
   rcases this with rfl | rfl | rfl
   ·exact el_behind _ _ _ _
   ·exact el_behind _ _ _ _
   ·exact ex_behind hx4
  ·have:x=elV [97] 15 1∨x=elV [98] 18 0∨x=exV g0:=by simpa [exRow] using hx
   rcases this with rfl | rfl | rfl
   ·exact el_ok _ _ _ (by decide)
   ·exact el_ok _ _ _ (by decide)
   ·exact ex_ok _
 clear hw4 hx0 hx4
 have HA1:=Lib.hid (show (elV [97] 15 1).arr=(elV [97] 15 1).arr from rfl)
 generalize hq1:(elV [97] 15 1).arr=q1 at HRUN ⊢
 generalize hq2:(elV [98] 18 0).arr=q2 at HRUN ⊢
 generalize hq3:(exV g0).arr=q3 at HRUN ⊢
 clear hq1 hq2 hq3 HA1
 generalize w3.heap.size=B at *
 have HC0:Hid (∀ g W,Below w4.heap.size w4 W→Box W g exCells.toArray 42→Calls Tryz.prog 12 #[.slice (some ⟨B,0,none⟩) 3 3,.agg (exV g).arr] W fun e w'=>e = .returned (.tuple #[.int .i64 0,.int .i64 0])∧Below W.heap.size W w'):=fun g W hb hx=>by
  have h:=choice_any (exRow g0) (some ⟨B,0,none⟩) 3 (exV g) W (HE.out.below (below_up HB.out hb)) (HV.out.below hb) (ex_ok g) (ex_behind hx)
  rw [exRow_f,show (exV g).f=exF from rfl,exFs_choice.1,exFs_choice.2] at h
  exact h
 have HC1:Hid (∀ g W,Below w4.heap.size w4 W→Box W g exCells.toArray 42→Calls Tryz.prog 12 #[.slice (some ⟨B,0,none⟩) 1 3,.agg (exV g).arr] W fun e w'=>e = .returned (.tuple #[.int .i64 1,.int .i64 0])∧Below W.heap.size W w'):=fun g W hb hx=>by
  have hv:=HV.out.below hb
  have h:=choice_any [elV [97] 15 1] (some ⟨B,0,none⟩) 3 (exV g) W (HE.out.below (below_up HB.out hb)) ⟨⟨hv.facts.1.take 1,fun x hx=>hv.facts.2 x (by rw [List.mem_singleton] at hx;subst hx;simp [exRow])⟩,fun x hx=>hv.ok x (by rw [List.mem_singleton] at hx;subst hx;simp [exRow]),by decide⟩ (ex_ok g) (ex_behind hx)
  rw [show [elV [97] 15 1].map FactV.f=exFs.take 1 from rfl,show (exV g).f=exF from rfl,exFs_choice1.1,exFs_choice1.2] at h
  exact h
 have HL:Hid (∀ W,Below w4.heap.size w4 W→Calls Tryz.prog 21 #[.slice (some ⟨B,0,none⟩) 3 3] W fun e w' => ∃ a c,e = .returned (.tuple #[.slice a 1 c,.int .i64 0])∧Row w' a (strsV [[97]])∧Below W.heap.size W w'):=fun W hb=>by
  refine (late_yes (exRow g0) (some ⟨B,0,none⟩) 3 W (HE.out.below (below_up HB.out hb)) (HV.out.below hb) (by rw [exRow_f];exact exFs_check)).mono ?_
  rintro e w' ⟨⟨v,rfl,hv⟩,hb'⟩
  rw [exRow_f,exFs_late] at hv
  obtain ⟨a,c,rfl,hr⟩:=row_of_owns hv
  exact ⟨a,c,rfl,hr,hb'⟩
 have HEQ:Hid (∀ a a2 c c2 W,Row W a (strsV [[97]])→Row W a2 (strsV [[97]])→Calls Tryz.prog 29 #[.slice a 1 c,.slice a2 1 c2] W fun e w'=>e = .returned (.bool true)∧Below W.heap.size W w'):=fun a a2 c c2 W h1 h2=>by
  have:=equalStr_any [[97]] [[97]] a a2 c c2 W (by decide) (by decide) h1 h2
  simpa using this
 clear HV
 go_wp2_with (refine wpList_sliceV rfl 22 3 _ rfl #[(0,.agg q1),(1,.agg q2),(2,.agg q3)] _ (by simp [Act.eval]) HRUN.out ?_)
 refine (exchangeEx_any _).mono ?_
 rintro e w5 ⟨g1,rfl,hx1,hb⟩
 have HB5:=Lib.hid hb
 have HX1:=Lib.hid hx1
 clear hb hx1
 go_wp2_with fail
 refine (HC0.out g1 _ HB5.out HX1.out).mono ?_
 rintro e w6 ⟨rfl,hb⟩
 have HB6:=Lib.hid (below_up HB5.out hb)
 clear hb HB5 HX1 HC0
 go_wp2_with fail
 refine aw_region (C:=⟨w6.drewN 1,B⟩) rfl rfl (fun g W hb hx=>HC1.out g W ((below_drewN HB6.out 1).trans (hb.mono HB6.out.size)) hx) rfl rfl rfl ?_
 intro γ w7 hb7
 have HB7:=Lib.hid ((below_drewN HB6.out 1).trans (hb7.mono HB6.out.size))
 clear hb7 HB6 HC1
 simp only [layT,awDs,List.foldl,List.setIfInBounds_toArray,List.set_cons_zero,List.set_cons_succ,AwC.val,awV,Nat.reduceEqDiff,if_true,if_false]
 go_wp2_with fail
 refine (HL.out _ HB7.out).mono ?_
 rintro e w8 ⟨a,c,rfl,hr,hb⟩
 have HB8:=Lib.hid (below_up HB7.out hb)
 have HR8:=Lib.hid (hr.below (below_alloc w8 (.cells #[.string ⟨#[97]⟩] 9)))
 have HN8:Hid (Row (w8.alloc (.cells #[.string ⟨#[97]⟩] 9)) (some ⟨w8.heap.size,0,none⟩) (strsV [[97]])):=.inr ⟨w8.heap.size,0,rfl,by simp,fun j v hv=>by
  have h:=heap_alloc_new w8 (.cells #[.string ⟨#[97]⟩] 9)
  rw [cell_at h,← hv]
  match j with
  | 0=>rfl
  | j+1=>rfl⟩
 have HB9:=Lib.hid (below_up HB8.out (below_alloc w8 (.cells #[.string ⟨#[97]⟩] 9)))
 clear hr hb HB7 HL
 go_wp2_with fail
 refine (HEQ.out _ _ _ _ _ HR8.out HN8.out).mono ?_
 rintro e w9 ⟨rfl,hb⟩
 have HB10:=Lib.hid (below_up HB9.out hb)
 clear hb
 go_wp2
 go_ret
 exact ⟨rfl,(HB.out.trans (HB10.out.mono HB.out.size))⟩
end
end Go.Proofs.YtbcebibkpfklnaaGreatDoor
