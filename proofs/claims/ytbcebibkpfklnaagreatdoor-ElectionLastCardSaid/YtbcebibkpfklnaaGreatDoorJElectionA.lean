/- Awake32A Awake32 Elections Great32 ElectionDefaultLaw -/
import Derived.Test.YtbcebibkpfklnaaGreatDoorJMem
import Derived.Test.YtbcebibkpfklnaaGreatDoorJWhereA
import Derived.Test.YtbcebibkpfklnaaGreatDoorJRowF
import Derived.Test.YtbcebibkpfklnaaGreatDoorJGreat2
import Derived.Lib.SliceRun
set_option maxHeartbeats 16000000
set_option maxRecDepth 100000
namespace Go.Proofs.YtbcebibkpfklnaaGreatDoor
section
open Go Go.RowKit Num
def Et(key:List UInt8)(d ch:Int):aE:=⟨key,0,false,d,11,[97,98,99],[],[],[109],[],[],[],⟨[],[]⟩,⟨[],[]⟩,⟨[],[]⟩,[],[],ch⟩
def pF(key:List UInt8)(d ch:Int):aF:=⟨Et key d ch,none,0,none,0⟩
def xH:aE:=⟨[109],0,false,20,10,[97,98,99],[],[],[],[],[],[],⟨[],[]⟩,⟨[],[]⟩,⟨[],[]⟩,[],[⟨[],⟨[],[]⟩,⟨[53],[]⟩,⟨[],[]⟩⟩,⟨[],⟨[],[]⟩,⟨[54],[]⟩,⟨[],[]⟩⟩],0⟩
def oP(g:Nat):aF:=⟨xH,none,0,some ⟨g,0,none⟩,2⟩
def xF(g:Nat):List aF:=[pF [97] 15 1,pF [98] 18 0,oP g]
theorem aAo(key:List UInt8)(d ch:Int)(h:key.length≤1000):(pF key d ch).ok:=by
 refine⟨⟨h,by simp[pF,Et],by simp[pF,Et],by simp[pF,Et],by simp[pF,Et],by simp[pF,Et],by simp[pF,Et],by simp[pF,Et],⟨by simp[pF,Et],by simp[pF,Et]⟩,⟨by simp[pF,Et],by simp[pF,Et]⟩,⟨by simp[pF,Et],by simp[pF,Et]⟩,by simp[pF,Et],fun p hp=>?_,by simp[pF,Et],fun o ho=>?_⟩,by simp[pF,Et]⟩
 ·cases hp
 ·cases ho
theorem Va(g:Nat):(oP g).ok:=by
 refine⟨⟨by simp[oP,xH],by simp[oP,xH],by simp[oP,xH],by simp[oP,xH],by simp[oP,xH],by simp[oP,xH],by simp[oP,xH],by simp[oP,xH],⟨by simp[oP,xH],by simp[oP,xH]⟩,⟨by simp[oP,xH],by simp[oP,xH]⟩,⟨by simp[oP,xH],by simp[oP,xH]⟩,by simp[oP,xH],fun p hp=>?_,by simp[oP,xH],fun o ho=>?_⟩,by simp[oP,xH]⟩
 ·cases hp
 ·have:o=⟨[],⟨[],[]⟩,⟨[53],[]⟩,⟨[],[]⟩⟩∨o=⟨[],⟨[],[]⟩,⟨[54],[]⟩,⟨[],[]⟩⟩:=by simpa[oP,xH] using ho
  rcases this with rfl|rfl <;> exact⟨by simp,⟨by simp,by simp⟩,⟨by simp,by simp⟩,⟨by simp,by simp⟩⟩
theorem Cy(key:List UInt8)(d ch:Int)(w:World):(pF key d ch).f.Behind w none none:=⟨.inl rfl,.inl rfl⟩
def lG:List Value:=[.string ⟨#[]⟩,.string ⟨#[]⟩,.string ⟨#[]⟩,.string ⟨#[53]⟩,.string ⟨#[]⟩,.string ⟨#[]⟩,.string ⟨#[]⟩,.string ⟨#[]⟩,.string ⟨#[]⟩,.string ⟨#[]⟩,.string ⟨#[54]⟩,.string ⟨#[]⟩,.string ⟨#[]⟩,.string ⟨#[]⟩]
theorem vF{g:Nat}{w:World}(h:aP w g lG.toArray 42):(oP g).f.Behind w none (some ⟨g,0,none⟩):=by
 refine⟨.inl rfl,.inr ⟨g,0,rfl,h.1,fun k cs hk j v hv=>?_⟩⟩;have hc:=h.cell (0+k*7+j);rw[hc];have hk':[[Value.string ⟨#[]⟩,.string ⟨#[]⟩,.string ⟨#[]⟩,.string ⟨#[53]⟩,.string ⟨#[]⟩,.string ⟨#[]⟩,.string ⟨#[]⟩],[.string ⟨#[]⟩,.string ⟨#[]⟩,.string ⟨#[]⟩,.string ⟨#[54]⟩,.string ⟨#[]⟩,.string ⟨#[]⟩,.string ⟨#[]⟩]][k]?=some cs:=hk
 match k,hk' with
 |0,e =>
  obtain rfl:=Option.some.inj e
  match j,hv with
  |0,hv|1,hv|2,hv|3,hv|4,hv|5,hv|6,hv=>exact hv
  |j+7,hv=>simp at hv
 |1,e =>
  obtain rfl:=Option.some.inj e
  match j,hv with
  |0,hv|1,hv|2,hv|3,hv|4,hv|5,hv|6,hv=>exact hv
  |j+7,hv=>simp at hv
 |k+2,e=>simp at e
theorem Cx(key:List UInt8)(d ch:Int)(w:World):
  Calls Tryz.prog 36 #[.string ⟨key.toArray⟩,.int .i64 d,.int .i64 ch] w fun e w'=>e=.returned (.agg (pF key d ch).arr)∧Below w.heap.size w w':=by
 have KZ:=Hd (aP.new0 w eS 30);have HB:=Hd (aB w (.cells eS 30));have HSZ:Hid ((Tryz.prog.info? 30).map (·.size)=some (pF key d ch).arr.size):=eA;have HS2:Hid (eS.size=(pF key d ch).arr.size):=rfl;have HONE:=Hd (dV (pF key d ch));obtain⟨cs,hcs⟩:∃cs,cs=(pF key d ch).arr:=⟨_,rfl⟩
 rw[←hcs] at HSZ HS2 HONE ⊢;have HCS:=Hd hcs;clear hcs;go_enter Tryz.func36,Tryz.ntmps36;go_wp2_with (refine wpList_store_row rfl 30 _ _ rfl w.heap.size cs rfl (by rw[HCS.out];rfl) 30 eS KZ.out.2 HSZ.out HS2.out HONE.out ?_);refine bodyPost_ret (v:=.agg cs) (results_cell_row Tryz.results36 _ _ w.heap.size 30 cs (0,0) _ rfl (setRow_heap _ _ _ _ _ _ KZ.out.2) Tryz.underlying30 rfl HSZ.out) rfl ⟨rfl,?_⟩;exact below_setRow HB.out (Nl _) cs
theorem mZ(w:World):
  Calls Tryz.prog 37 #[] w fun e w'=>∃g,e=.returned (.agg (oP g).arr)∧aP w' g lG.toArray 42∧Below w.heap.size w w':=by
 have KZ:=(aP.new0 w eS 30).below (aB _ (.cells lG.toArray 42));have KX:=aP.new0 (w.alloc (.cells eS 30)) lG.toArray 42;rw[World.size_alloc] at KX;have KZ:=Hd KZ;have KX:=Hd KX;have HB:=Hd (aA (aB w (.cells eS 30)) (aB _ (.cells lG.toArray 42)));have HSZ:Hid ((Tryz.prog.info? 30).map (·.size)=some (oP (w.heap.size+1)).arr.size):=eA;have HS2:Hid (eS.size=(oP (w.heap.size+1)).arr.size):=rfl;have HONE:=Hd (dV (oP (w.heap.size+1)));obtain⟨cs,hcs⟩:∃cs,cs=(oP (w.heap.size+1)).arr:=⟨_,rfl⟩
 rw[←hcs] at HSZ HS2 HONE;have HCS:=Hd hcs;clear hcs;go_enter Tryz.func37,Tryz.ntmps37;go_wp2_with (refine wpList_store_row rfl 30 _ _ rfl w.heap.size cs rfl (by rw[HCS.out];rfl) 30 eS KZ.out.2 HSZ.out HS2.out HONE.out ?_);refine bodyPost_ret (v:=.agg cs) (results_cell_row Tryz.results37 _ _ w.heap.size 30 cs (0,0) _ rfl (setRow_heap _ _ _ _ _ _ KZ.out.2) Tryz.underlying30 rfl HSZ.out) rfl ⟨w.heap.size+1,by rw[HCS.out],pM KX.out (by omega),?_⟩;exact below_setRow HB.out (Nl _) cs
def Ig:List aE:=[Et [97] 15 1,Et [98] 18 0,xH]
theorem Eo(g:Nat):(xF g).map aF.f=Ig:=rfl
theorem Lr:dF Ig=0:=by decide +kernel
theorem xG:bC Ig xH=0∧aL Ig xH=0:=by decide +kernel
theorem tV:bC (Ig.take 1) xH=1∧aL (Ig.take 1) xH=0:=by decide +kernel
theorem Rb:dZ Ig=[[97]]:=by decide +kernel
end
section
open Go Go.RowKit Num
theorem Kb(x y z:aF)(w:World):(Instr.buildSlice 22 3 #[(0,.agg x.arr),(1,.agg y.arr),(2,.agg z.arr)]).run Tryz.prog w=.ok (.slice (some ⟨w.heap.size,0,none⟩) 3 3) (w.alloc (.cells (x.arr++y.arr++z.arr) 30)):=by
 unfold aF.arr aE.cells;simp[go_sem]
theorem lA{P:Program}{ops:Array Oper}{rest:List Oper}{o:Oper}{a:Act}{w w':World}{Q:Exit→Act→World→Prop}(hgd:o.guard=none)(t:TypeId)(n:Nat)(ps:Array (Nat×Operand))(ho:o.op=.buildSlice t n ps)(qs:Array (Nat×Value))(v:Value)
  (hps:(ps.map fun (i,x)=>(i,a.eval x))=qs) (hrun:(Instr.buildSlice t n qs).run P w=.ok v w') (h:wpList P ops Q rest (a.put o.dst v) w'):wpList P ops Q (o::rest) a w:=by
 refine wpList_plain hgd fun K hK=>Dp ho (v:=v) (w':=w') ?_ (hK _ _ h)
 rw[hps];exact hrun
theorem Fy{w:World}{B:Nat}(x y z:aF)(h:w.heap[B]?=some (.cells (x.arr++y.arr++z.arr) 30 (0,0))):gJ w (some ⟨B,0,none⟩) 21 ([x,y,z].map aF.cells):=by
 refine oY (by decide) Fa (.inr ⟨B,0,rfl,(Ai.1 h).1,fun j v hv=>?_⟩);rw[aS h,←hv,←Array.getElem?_toList];simp[aF.cells]
noncomputable def aAp:Array Oper:=(Tryz.f11.body.bind (jE 3)).getD #[]
def Zy:List (Nat×Nat):=[(0,19),(1,20),(2,21),(3,22),(4,18),(5,23),(6,24),(7,4),(8,5)]
structure Nb where
 W0:World
 B:Nat
def awV(B:Nat):Nat→Value
 |0=>.slice (some ⟨B,0,none⟩) 3 3
 |1=>.slice (some ⟨B,0,none⟩) 1 3
 |3=>.tuple #[.int .i64 1,.int .i64 0]
 |4=>.tuple #[.int .i64 1,.int .i64 0]
 |5=>.int .i64 1
 |6=>.int .i64 0
 |7=>.int .i64 1
 |_=>.int .i64 0
def Nb.val(C:Nb)(γ:Nat)(j:Nat):Value:=if j=2 then .agg (oP γ).arr else awV C.B j
def Nb.g(C:Nb)(γ:Nat)(l:Array Bool)(W:World):Prop:=Below C.W0.heap.size C.W0 W∧(lP l 2→aP W γ lG.toArray 42)
section
variable {C:Nb}{t0:Array Value}{Q:Exit→Act→World→Prop}{l:Array Bool}{w:World}{γ:Nat}
theorem Nb.keep{i:Nat}(hi:i≠2)(h:C.g γ l w):C.g γ (l.setIfInBounds i true) w:=⟨h.1,fun h2=>h.2 (mQ h2 (Ne.symm hi))⟩
theorem Rq(hsz0:t0.size=48)(ht1:t0[1]?=some (.slice (some ⟨C.B,0,none⟩) 3 3))(hch:∀g W,Below C.W0.heap.size C.W0 W→aP W g lG.toArray 42→Calls Tryz.prog 12 #[.slice (some ⟨C.B,0,none⟩) 1 3,.agg (oP g).arr] W fun e w'=>e=.returned (.tuple #[.int .i64 1,.int .i64 0])∧Below W.heap.size W w')
  {a:Act}(hdf:a.defers=[]) (ht:a.tmps=t0) (hw:w.drewN 1=C.W0)
  (hQ:∀ γ W,Below C.W0.heap.size C.W0 W→Q .normal { tmps:=iZ (C.val γ) Zy t0,defers:=[] } W):(Code.region 3 aAp true).wp Tryz.prog Q a w:=by
 have hsz:aAp.size=9:=by kernel_rfl
 refine eV (ds:=Zy) (val:=C.val) (G:=C.g) (by kernel_rfl) (by kernel_rfl) (by decide) (fun p hp=>?_) (by kernel_rfl) ?_ (γ:=0) hdf ht ⟨by rw[hw];exact Br _ _,fun h=>absurd h (Gu _ _)⟩ (fun γ _ W _ hg=>hQ γ W hg.1)
 ·rw[hsz0];have:∀p,p∈Zy→p.2<48:=by decide
  exact this p hp
 ·intro γ l a w i H hr;have hi:i<9:=by
   obtain⟨_,o,ho,_⟩:=mem_ready.1 hr;have:=(Ai.1 ho).1;rw[hsz] at this;exact this
  have t1:=H.low (s:=1) (by decide) ht1
  match i,hi,hr with
  |0,_,hr=>exact aH (X:=.move (.tmp 1)) (by kernel_rfl) (fun o h=>by simp[execOp,h,t1,go_sem];rfl) rfl (Nb.keep (by decide) H.g)
  |1,_,hr =>
   have v0:a.tmps[19]?=some (.slice (some ⟨C.B,0,none⟩) 3 3):=H.dep hr 0 19 (by kernel_rfl) ⟨rfl,by decide⟩;exact aH (X:=.slice 22 (.tmp 19) none (some (.const (.int .i64 1))) none) (by kernel_rfl) (fun o h=>by simp[execOp,h,v0,go_sem];rfl) rfl (Nb.keep (by decide) H.g)
  |2,_,hr =>
   refine gA (f:=37) (lb:=#[]) (c:=.func 37) (args:=#[]) (ts:=#[]) (vs:=#[]) (by kernel_rfl) rfl (enters_of Tryz.func37 (by kernel_rfl) rfl) (by simp) ((mZ _).mono ?_);rintro e w' ⟨g,rfl,hx,hb⟩;refine⟨_,g,rfl,rfl,fun j hj=>?_,aA H.g.1 hb,fun _=>hx⟩;have:j≠2:=fun e=>lZ (mem_ready.1 hr).1 (e ▸ hj)
   unfold Nb.val;rw[if_neg this,if_neg this]
  |3,_,hr =>
   have v1:a.tmps[20]?=some (.slice (some ⟨C.B,0,none⟩) 1 3):=H.dep hr 1 20 (by kernel_rfl) ⟨rfl,by decide⟩;have v2:a.tmps[21]?=some (.agg (oP γ).arr):=H.dep hr 2 21 (by kernel_rfl) ⟨rfl,by decide⟩;have hx:=H.g.2 (aG hr (d:=2) (by kernel_rfl));refine gA (f:=12) (lb:=#[]) (c:=.func 12) (args:=#[.tmp 20,.tmp 21]) (ts:=#[22,30]) (vs:=#[.slice (some ⟨C.B,0,none⟩) 1 3,.agg (oP γ).arr]) (by kernel_rfl) rfl (enters_of Tryz.func12 (by kernel_rfl) rfl) (by simp[Act.eval,v1,v2]) ((hch γ _ H.g.1 hx).mono ?_);rintro e w' ⟨rfl,hb⟩;exact⟨_,γ,rfl,rfl,fun _ _=>rfl,aA H.g.1 hb,fun _=>hx.below hb⟩
  |4,_,hr =>
   have v0:a.tmps[22]?=some (.tuple #[.int .i64 1,.int .i64 0]):=H.dep hr 3 22 (by kernel_rfl) ⟨rfl,by decide⟩;exact aH (X:=.move (.tmp 22)) (by kernel_rfl) (fun o h=>by simp[execOp,h,v0,go_sem];rfl) rfl (Nb.keep (by decide) H.g)
  |5,_,hr =>
   have v0:a.tmps[18]?=some (.tuple #[.int .i64 1,.int .i64 0]):=H.dep hr 4 18 (by kernel_rfl) ⟨rfl,by decide⟩;exact aH (X:=.extract (.tmp 18) 0) (by kernel_rfl) (fun o h=>by simp[execOp,h,v0,go_sem];rfl) rfl (Nb.keep (by decide) H.g)
  |6,_,hr =>
   have v0:a.tmps[18]?=some (.tuple #[.int .i64 1,.int .i64 0]):=H.dep hr 4 18 (by kernel_rfl) ⟨rfl,by decide⟩;exact aH (X:=.extract (.tmp 18) 1) (by kernel_rfl) (fun o h=>by simp[execOp,h,v0,go_sem];rfl) rfl (Nb.keep (by decide) H.g)
  |7,_,hr =>
   have v0:a.tmps[23]?=some (.int .i64 1):=H.dep hr 5 23 (by kernel_rfl) ⟨rfl,by decide⟩;exact aH (X:=.assign (.tmp 23)) (by kernel_rfl) (fun o h=>by simp[execOp,h,v0,go_sem];rfl) rfl (Nb.keep (by decide) H.g)
  |8,_,hr =>
   have v0:a.tmps[24]?=some (.int .i64 0):=H.dep hr 6 24 (by kernel_rfl) ⟨rfl,by decide⟩;exact aH (X:=.assign (.tmp 24)) (by kernel_rfl) (fun o h=>by simp[execOp,h,v0,go_sem];rfl) rfl (Nb.keep (by decide) H.g)
  |n+9,h,_=>exact absurd h (by omega)
end
theorem nR(w:World)(hE:iE w):Calls Tryz.prog 11 #[] w fun e w'=>e=.returned (.bool true)∧Below w.heap.size w w':=by
 have HE:=Hd hE;clear hE;go_enter Tryz.func11,Tryz.ntmps11;go_wp2_with fail;refine(Cx [97] 15 1 _).mono ?_;rintro e w1 ⟨rfl,hb⟩;have HB:=Hd hb;clear hb;go_wp2_with fail;refine(Cx [98] 18 0 _).mono ?_;rintro e w2 ⟨rfl,hb⟩;have HB:=Hd (aA HB.out hb);clear hb;go_wp2_with fail;refine(mZ _).mono ?_;rintro e w3 ⟨g0,rfl,hx0,hb⟩;have HB:=Hd (aA HB.out hb);clear hb;obtain⟨w4,hw4⟩:∃w4,w4=w3.alloc (.cells ((pF [97] 15 1).arr++(pF [98] 18 0).arr++(oP g0).arr) 30):=⟨_,rfl⟩
 have HRUN:=Kb (pF [97] 15 1) (pF [98] 18 0) (oP g0) w3;rw[←hw4] at HRUN;have HRUN:=Hd HRUN;have HB:=Hd (show Below w.heap.size w w4 by rw[hw4];exact aA HB.out (aB _ _));have hx4:aP w4 g0 lG.toArray 42:=by rw[hw4];exact hx0.below (aB _ _)
 have HV:Hid (gT w4 (some ⟨w3.heap.size,0,none⟩) 3 (xF g0)):=by
  refine⟨⟨?_,fun x hx=>?_⟩,fun x hx=>?_,by show 3≤_;decide⟩
  ·exact Fy _ _ _ (by rw[hw4];exact heap_alloc_new w3 _)
  ·have:x=pF [97] 15 1∨x=pF [98] 18 0∨x=oP g0:=by simpa[xF] using hx
   rcases this with rfl|rfl|rfl
   ·exact Cy _ _ _ _
   ·exact Cy _ _ _ _
   ·exact vF hx4
  ·have:x=pF [97] 15 1∨x=pF [98] 18 0∨x=oP g0:=by simpa[xF] using hx
   rcases this with rfl|rfl|rfl
   ·exact aAo _ _ _ (by decide)
   ·exact aAo _ _ _ (by decide)
   ·exact Va _
 clear hw4 hx0 hx4;have HA1:=Hd (show (pF [97] 15 1).arr=(pF [97] 15 1).arr from rfl);generalize hq1:(pF [97] 15 1).arr=q1 at HRUN ⊢;generalize hq2:(pF [98] 18 0).arr=q2 at HRUN ⊢;generalize hq3:(oP g0).arr=q3 at HRUN ⊢;clear hq1 hq2 hq3 HA1;generalize w3.heap.size=B at *;have HC0:Hid (∀g W,Below w4.heap.size w4 W→aP W g lG.toArray 42→Calls Tryz.prog 12 #[.slice (some ⟨B,0,none⟩) 3 3,.agg (oP g).arr] W fun e w'=>e=.returned (.tuple #[.int .i64 0,.int .i64 0])∧Below W.heap.size W w'):=fun g W hb hx=>by
  have h:=fE (xF g0) (some ⟨B,0,none⟩) 3 (oP g) W (HE.out.below (aA HB.out hb)) (HV.out.below hb) (Va g) (vF hx);rw[Eo,show (oP g).f=xH from rfl,xG.1,xG.2] at h;exact h
 have HC1:Hid (∀g W,Below w4.heap.size w4 W→aP W g lG.toArray 42→Calls Tryz.prog 12 #[.slice (some ⟨B,0,none⟩) 1 3,.agg (oP g).arr] W fun e w'=>e=.returned (.tuple #[.int .i64 1,.int .i64 0])∧Below W.heap.size W w'):=fun g W hb hx=>by
  have hv:=HV.out.below hb;have h:=fE [pF [97] 15 1] (some ⟨B,0,none⟩) 3 (oP g) W (HE.out.below (aA HB.out hb)) ⟨⟨hv.facts.1.take 1,fun x hx=>hv.facts.2 x (by rw[List.mem_singleton] at hx;subst hx;simp[xF])⟩,fun x hx=>hv.ok x (by rw[List.mem_singleton] at hx;subst hx;simp[xF]),by decide⟩ (Va g) (vF hx);rw[show [pF [97] 15 1].map aF.f=Ig.take 1 from rfl,show (oP g).f=xH from rfl,tV.1,tV.2] at h;exact h
 have HL:Hid (∀W,Below w4.heap.size w4 W→Calls Tryz.prog 21 #[.slice (some ⟨B,0,none⟩) 3 3] W fun e w'=>∃a c,e=.returned (.tuple #[.slice a 1 c,.int .i64 0])∧dT w' a (iS [[97]])∧Below W.heap.size W w'):=fun W hb=>by
  refine(Gz (xF g0) (some ⟨B,0,none⟩) 3 W (HE.out.below (aA HB.out hb)) (HV.out.below hb) (by rw[Eo];exact Lr)).mono ?_;rintro e w' ⟨⟨v,rfl,hv⟩,hb'⟩;rw[Eo,Rb] at hv;obtain⟨a,c,rfl,hr⟩:=gK hv;exact⟨a,c,rfl,hr,hb'⟩
 have HEQ:Hid (∀a a2 c c2 W,dT W a (iS [[97]])→dT W a2 (iS [[97]])→Calls Tryz.prog 29 #[.slice a 1 c,.slice a2 1 c2] W fun e w'=>e=.returned (.bool true)∧Below W.heap.size W w'):=fun a a2 c c2 W h1 h2=>by
  have:=Ep [[97]] [[97]] a a2 c c2 W (by decide) (by decide) h1 h2;simpa using this
 clear HV;go_wp2_with (refine lA rfl 22 3 _ rfl #[(0,.agg q1),(1,.agg q2),(2,.agg q3)] _ (by simp[Act.eval]) HRUN.out ?_);refine(mZ _).mono ?_;rintro e w5 ⟨g1,rfl,hx1,hb⟩;have HB5:=Hd hb;have HX1:=Hd hx1;clear hb hx1;go_wp2_with fail;refine(HC0.out g1 _ HB5.out HX1.out).mono ?_;rintro e w6 ⟨rfl,hb⟩;have HB6:=Hd (aA HB5.out hb);clear hb HB5 HX1 HC0;go_wp2_with fail;refine Rq (C:=⟨w6.drewN 1,B⟩) rfl rfl (fun g W hb hx=>HC1.out g W ((aD HB6.out 1).trans (hb.mono HB6.out.size)) hx) rfl rfl rfl ?_;intro γ w7 hb7;have HB7:=Hd ((aD HB6.out 1).trans (hb7.mono HB6.out.size));clear hb7 HB6 HC1;simp only[iZ,Zy,List.foldl,List.setIfInBounds_toArray,List.set_cons_zero,List.set_cons_succ,Nb.val,awV,Nat.reduceEqDiff,if_true,if_false];go_wp2_with fail;refine(HL.out _ HB7.out).mono ?_;rintro e w8 ⟨a,c,rfl,hr,hb⟩;have HB8:=Hd (aA HB7.out hb);have HR8:=Hd (hr.below (aB w8 (.cells #[.string ⟨#[97]⟩] 9)));have HN8:Hid (dT (w8.alloc (.cells #[.string ⟨#[97]⟩] 9)) (some ⟨w8.heap.size,0,none⟩) (iS [[97]])):=.inr ⟨w8.heap.size,0,rfl,by simp,fun j v hv=>by
  have h:=heap_alloc_new w8 (.cells #[.string ⟨#[97]⟩] 9);rw[aS h,←hv]
  match j with
  |0=>rfl
  |j+1=>rfl⟩
 have HB9:=Hd (aA HB8.out (aB w8 (.cells #[.string ⟨#[97]⟩] 9)));clear hr hb HB7 HL;go_wp2_with fail;refine(HEQ.out _ _ _ _ _ HR8.out HN8.out).mono ?_;rintro e w9 ⟨rfl,hb⟩;have HB10:=Hd (aA HB9.out hb);clear hb;go_wp2;go_ret;exact⟨rfl,(HB.out.trans (HB10.out.mono HB.out.size))⟩
end
section
open Go Go.RowKit Go.Shelf Num
theorem tF(fc:Array Value)(hs:fc.size=21)(w:World):(Instr.buildSlice 22 1 #[(0,.agg fc)]).run Tryz.prog w=.ok (.slice (some ⟨w.heap.size,0,none⟩) 1 1) (w.alloc (.cells fc 30)):=by
 obtain⟨l⟩:=fc
 match l,hs with
 | [a0,a1,a2,a3,a4,a5,a6,a7,a8,a9,a10,a11,a12,a13,a14,a15,a16,a17,a18,a19,a20],_=>simp[go_sem]
attribute [local go_sem] Oper.semAt_some
end
section
open Go Go.RowKit Num
theorem Bp(xs:List aF)(a:Option Addr)(c:Nat)(w:World)(hn:xs.length≤9223372036854775807)(hr:fS w a xs)(hf:∀x,x∈xs→x.fits):
  Calls Tryz.prog 33 #[.slice a xs.length c] w fun e w'=>uK ((∀x,x∈xs→x.f.tight)∧(xs.length≤12∨1000<xs.length∧xs.length≤1003)) e∧Below w.heap.size w w':=by
 have HR:=Hd hr;have HF:=Hd hf;clear hr hf
 by_cases hbad:(12<xs.length∧xs.length≤1000)∨1002<xs.length
 ·clear HR HF;generalize xs.length=n at *;rcases hbad with⟨h1,h2⟩|h1
  ·have d1:decide (12<(n:Int))=true:=by simpa using(by omega:(12:Int)<n)
   have d2:decide ((n:Int)≤1000)=true:=by simpa using(by omega:(n:Int)≤1000)
   go_enter Tryz.func33,Tryz.ntmps33;go_wp2;go_ret;exact⟨⟨true,rfl,fun h=>by cases h⟩,Br _ _⟩
  ·have d1:decide (12<(n:Int))=true:=by simpa using(by omega:(12:Int)<n)
   have d2:decide ((n:Int)≤1000)=false:=by simpa using(by omega:¬ (n:Int)≤1000)
   have d3:decide (1002<(n:Int))=true:=by simpa using(by omega:(1002:Int)<n)
   go_enter Tryz.func33,Tryz.ntmps33;go_wp2;go_ret;exact⟨⟨true,rfl,fun h=>by cases h⟩,Br _ _⟩
 have HSZ0:Hid (xs.length≤12∨1000<xs.length∧xs.length≤1003):=by show _∨_;omega
 by_cases h12:12<xs.length
 ·have h1000:¬ (xs.length:Int)≤1000:=by omega
  have h1002:¬ (1002:Int)<xs.length:=by omega
  go_enter Tryz.func33,Tryz.ntmps33;go_wp2_with fail;go_loopw [3] (fun iv wr=>∃k:Nat,k≤xs.length∧iv=.int .i64 k∧Hid (∀j x,j<k→xs[j]?=some x→x.f.tight)∧Hid (Below w.heap.size w wr)) (fun iv _=>xs.length-(intOf iv).toNat)
  case atStart=>exact⟨0,Nat.zero_le _,rfl,fun j x h=>absurd h (Nat.not_lt_zero j),Br _ _⟩
  case round =>
   obtain⟨k,hk,rfl,HS,HB⟩:=hrel
   by_cases hlt:k<xs.length
   ·obtain⟨x,hx⟩:∃x,xs[k]?=some x:=⟨xs[k],Lg hlt⟩
    obtain⟨b,off,rfl,hbl,hc⟩:=HR.out.1.addr (k:=k) (cs:=x.cells) (by rw[List.getElem?_map,hx];rfl);have hxm:=List.mem_of_getElem? hx;have hfx:=HF.out x hxm;have HC:Hid (∀j v,x.arr.toList[j]?=some v→wr.cell? ⟨b,off+k*21+j,none⟩=some v):=fun j v hv=>(HB.out.cell (p:=⟨b,off+k*21+j,none⟩) hbl).trans (hc j v hv)
    have HSZ:Hid ((Tryz.prog.info? 30).map (·.size)=some x.arr.size):=aY x.f x.pa x.oa x.pc x.oc;have HG:Hid (Calls Tryz.prog 35 #[.agg x.arr] wr fun e w'=>(∃g,e=.returned (.bool g)∧(g=false→x.f.tight))∧Below wr.heap.size wr w'):=qH x.f x.pa x.oa x.pc x.oc wr ((HR.out.2 x hxm).below HB.out) (by have:=hfx.npicks;unfold maxLen at this;omega) (by have:=hfx.noptions;unfold maxLen at this;omega);have HK:Hid (x.f.tight→∀j y,j<k+1→xs[j]?=some y→y.f.tight):=fun h j y hj hy=>by
     by_cases e:j=k
     ·subst e;rw[hx] at hy;injection hy with hy;subst hy;exact h
     ·exact HS.out j y (by omega) hy
    clear HS hc hx hxm hfx;generalize x.arr=fc at *;go_wp2_with (refine aM rfl 30 _ rfl b (off+k*21) rfl fc _ HC.out Tryz.underlying30 rfl HSZ.out ?_);refine HG.out.mono ?_;rintro e w1 ⟨⟨g,rfl,hg⟩,hb⟩;have HB1:=Hd (aA HB.out hb);cases g with
    |true =>
     go_wp2;go_ret;exact⟨⟨true,rfl,fun h=>by cases h⟩,HB1.out⟩
    |false =>
     have HK2:=Hd (HK.out (hg rfl));clear hg HK;go_wp2;go_roundw
     case rel=>exact⟨k+1,by omega,by go_num,HK2,HB1⟩
     case measure=>simp[intOf];omega
   ·obtain rfl:k=xs.length:=by omega
    have HA:Hid (∀x,x∈xs→x.f.tight):=fun x hx=>by
     obtain⟨j,hj⟩:=List.getElem?_of_mem hx;exact HS.out j x (Li.1 hj).1 hj
    clear HS;go_wp2;go_ret;exact⟨⟨_,rfl,fun _=>⟨HA.out,HSZ0.out⟩⟩,HB.out⟩
 ·have h1002:¬ (1002:Int)<xs.length:=by omega
  go_enter Tryz.func33,Tryz.ntmps33;go_wp2_with fail;go_loopw [3] (fun iv wr=>∃k:Nat,k≤xs.length∧iv=.int .i64 k∧Hid (∀j x,j<k→xs[j]?=some x→x.f.tight)∧Hid (Below w.heap.size w wr)) (fun iv _=>xs.length-(intOf iv).toNat)
  case atStart=>exact⟨0,Nat.zero_le _,rfl,fun j x h=>absurd h (Nat.not_lt_zero j),Br _ _⟩
  case round =>
   obtain⟨k,hk,rfl,HS,HB⟩:=hrel
   by_cases hlt:k<xs.length
   ·obtain⟨x,hx⟩:∃x,xs[k]?=some x:=⟨xs[k],Lg hlt⟩
    obtain⟨b,off,rfl,hbl,hc⟩:=HR.out.1.addr (k:=k) (cs:=x.cells) (by rw[List.getElem?_map,hx];rfl);have hxm:=List.mem_of_getElem? hx;have hfx:=HF.out x hxm;have HC:Hid (∀j v,x.arr.toList[j]?=some v→wr.cell? ⟨b,off+k*21+j,none⟩=some v):=fun j v hv=>(HB.out.cell (p:=⟨b,off+k*21+j,none⟩) hbl).trans (hc j v hv)
    have HSZ:Hid ((Tryz.prog.info? 30).map (·.size)=some x.arr.size):=aY x.f x.pa x.oa x.pc x.oc;have HG:Hid (Calls Tryz.prog 35 #[.agg x.arr] wr fun e w'=>(∃g,e=.returned (.bool g)∧(g=false→x.f.tight))∧Below wr.heap.size wr w'):=qH x.f x.pa x.oa x.pc x.oc wr ((HR.out.2 x hxm).below HB.out) (by have:=hfx.npicks;unfold maxLen at this;omega) (by have:=hfx.noptions;unfold maxLen at this;omega);have HK:Hid (x.f.tight→∀j y,j<k+1→xs[j]?=some y→y.f.tight):=fun h j y hj hy=>by
     by_cases e:j=k
     ·subst e;rw[hx] at hy;injection hy with hy;subst hy;exact h
     ·exact HS.out j y (by omega) hy
    clear HS hc hx hxm hfx;generalize x.arr=fc at *;go_wp2_with (refine aM rfl 30 _ rfl b (off+k*21) rfl fc _ HC.out Tryz.underlying30 rfl HSZ.out ?_);refine HG.out.mono ?_;rintro e w1 ⟨⟨g,rfl,hg⟩,hb⟩;have HB1:=Hd (aA HB.out hb);cases g with
    |true =>
     go_wp2;go_ret;exact⟨⟨true,rfl,fun h=>by cases h⟩,HB1.out⟩
    |false =>
     have HK2:=Hd (HK.out (hg rfl));clear hg HK;go_wp2;go_roundw
     case rel=>exact⟨k+1,by omega,by go_num,HK2,HB1⟩
     case measure=>simp[intOf];omega
   ·obtain rfl:k=xs.length:=by omega
    have HA:Hid (∀x,x∈xs→x.f.tight):=fun x hx=>by
     obtain⟨j,hj⟩:=List.getElem?_of_mem hx;exact HS.out j x (Li.1 hj).1 hj
    clear HS;go_wp2;go_ret;exact⟨⟨_,rfl,fun _=>⟨HA.out,HSZ0.out⟩⟩,HB.out⟩
def Wh(P:Prop)(e:Ending):Prop:=∃i:Int,e=.returned (.int .i64 i)∧(decide (0≤i)=false→P)
theorem zS(xs:List aF)(a:Option Addr)(c:Nat)(w:World)(hn:xs.length≤1000000)(hr:fS w a xs)(hf:∀x,x∈xs→x.fits):
  Calls Tryz.prog 49 #[.slice a xs.length c,.func (.func 35) #[] #[]] w fun e w'=>Wh (∀x,x∈xs→x.f.tight) e∧Below w.heap.size w w':=by
 have HR:=Hd hr;have HF:=Hd hf;clear hr hf;go_enter Tryz.func49,Tryz.ntmps49;go_wp2_with fail;go_loopw [8] (fun iv wr=>∃k:Nat,k≤xs.length∧iv=.int .i64 k∧Hid (∀j x,j<k→xs[j]?=some x→x.f.tight)∧Hid (Below w.heap.size w wr)) (fun iv _=>xs.length-(intOf iv).toNat)
 case atStart=>exact⟨0,Nat.zero_le _,rfl,fun j x h=>absurd h (Nat.not_lt_zero j),Br _ _⟩
 case round =>
  obtain⟨k,hk,rfl,HS,HB⟩:=hrel
  by_cases hlt:k<xs.length
  ·obtain⟨x,hx⟩:∃x,xs[k]?=some x:=⟨xs[k],Lg hlt⟩
   obtain⟨b,off,rfl,hbl,hc⟩:=HR.out.1.addr (k:=k) (cs:=x.cells) (by rw[List.getElem?_map,hx];rfl);have hxm:=List.mem_of_getElem? hx;have hfx:=HF.out x hxm;have HC:Hid (∀j v,x.arr.toList[j]?=some v→wr.cell? ⟨b,off+k*21+j,none⟩=some v):=fun j v hv=>(HB.out.cell (p:=⟨b,off+k*21+j,none⟩) hbl).trans (hc j v hv)
   have HSZ:Hid ((Tryz.prog.info? 30).map (·.size)=some x.arr.size):=aY x.f x.pa x.oa x.pc x.oc;have HG:Hid (Calls Tryz.prog 35 #[.agg x.arr] wr fun e w'=>(∃g,e=.returned (.bool g)∧(g=false→x.f.tight))∧Below wr.heap.size wr w'):=qH x.f x.pa x.oa x.pc x.oc wr ((HR.out.2 x hxm).below HB.out) (by have:=hfx.npicks;unfold maxLen at this;omega) (by have:=hfx.noptions;unfold maxLen at this;omega);have HK:Hid (x.f.tight→∀j y,j<k+1→xs[j]?=some y→y.f.tight):=fun h j y hj hy=>by
    by_cases e:j=k
    ·subst e;rw[hx] at hy;injection hy with hy;subst hy;exact h
    ·exact HS.out j y (by omega) hy
   clear HS hc hx hxm hfx;generalize x.arr=fc at *;go_wp2_with (refine aM rfl 30 _ rfl b (off+k*21) rfl fc _ HC.out Tryz.underlying30 rfl HSZ.out ?_);refine HG.out.mono ?_;rintro e w1 ⟨⟨g,rfl,hg⟩,hb⟩;have HB1:=Hd (aA HB.out hb);cases g with
   |true =>
    go_wp2;go_ret;exact⟨⟨_,rfl,fun h=>by simp at h⟩,HB1.out⟩
   |false =>
    have HK2:=Hd (HK.out (hg rfl));clear hg HK;go_wp2;go_roundw
    case rel=>exact⟨k+1,by omega,by go_num,HK2,HB1⟩
    case measure=>simp[intOf];omega
  ·obtain rfl:k=xs.length:=by omega
   have HA:Hid (∀x,x∈xs→x.f.tight):=fun x hx=>by
    obtain⟨j,hj⟩:=List.getElem?_of_mem hx;exact HS.out j x (Li.1 hj).1 hj
   clear HS;go_wp2;go_ret;exact⟨⟨_,rfl,fun _=>HA.out⟩,HB.out⟩
theorem uD(xs:List aF)(a:Option Addr)(c:Nat)(w:World)(hn:xs.length≤1000000)(hr:fS w a xs)(hf:∀x,x∈xs→x.fits):
  Calls Tryz.prog 34 #[.slice a xs.length c,.func (.func 35) #[] #[]] w fun e w'=>uK (∀x,x∈xs→x.f.tight) e∧Below w.heap.size w w':=by
 have HI:=Hd (zS xs a c w hn hr hf);clear hr hf hn;generalize(∀x,x∈xs→x.f.tight)=P at *;generalize xs.length=n at *;go_enter Tryz.func34,Tryz.ntmps34;go_wp2_with fail;refine HI.out.mono ?_;rintro e w1 ⟨⟨i,rfl,hi⟩,hb⟩;go_wp2;go_ret;exact⟨⟨_,rfl,hi⟩,hb⟩
theorem nJ(xs ys:List aF)(a a2:Option Addr)(c c2:Nat)(w:World)(hn:xs.length≤9223372036854775807)(hr:fS w a xs)(hf:∀x,x∈xs→x.fits)(hn2:ys.length≤1000000)(hr2:fS w a2 ys)(hf2:∀x,x∈ys→x.fits):
  Calls Tryz.prog 10 #[.slice a xs.length c,.slice a2 ys.length c2] w fun e w'=>uK (((∀x,x∈xs→x.f.tight)∧(xs.length≤12∨1000<xs.length∧xs.length≤1003))∧∀y,y∈ys→y.f.tight) e∧Below w.heap.size w w':=by
 have HG:=Hd (Bp xs a c w hn hr hf);have HC:Hid (∀W,Below w.heap.size w W→Calls Tryz.prog 34 #[.slice a2 ys.length c2,.func (.func 35) #[] #[]] W fun e w'=>uK (∀y,y∈ys→y.f.tight) e∧Below W.heap.size W w'):=fun W hb=>uD ys a2 c2 W hn2 (hr2.below hb) hf2
 clear hr hf hn hr2 hf2 hn2;generalize((∀x,x∈xs→x.f.tight)∧(xs.length≤12∨1000<xs.length∧xs.length≤1003))=P at *;generalize(∀y,y∈ys→y.f.tight)=R at *;generalize xs.length=n at *;generalize ys.length=m at *;go_enter Tryz.func10,Tryz.ntmps10;go_wp2_with fail;refine HG.out.mono ?_;rintro e w1 ⟨⟨g,rfl,hg⟩,hb⟩;have HB1:=Hd hb;have HGG:=Hd hg;clear hg hb;cases g with
 |true =>
  go_wp2_with fail;go_ret;exact⟨⟨true,rfl,fun h=>by cases h⟩,HB1.out⟩
 |false =>
  have HP:=Hd (HGG.out rfl);clear HGG;go_wp2_with fail;refine(HC.out _ HB1.out).mono ?_;rintro e w2 ⟨⟨g2,rfl,hg2⟩,hb2⟩;have HB2:=Hd (aA HB1.out hb2);have HG2:=Hd hg2;clear hg2 hb2;go_wp2_with fail;go_ret;exact⟨⟨_,rfl,fun h=>⟨HP.out,HG2.out h⟩⟩,HB2.out⟩
end
section
open Go Go.RowKit Num
theorem uV{w:World}{B:Nat}(x:aF)(h:aP w B x.arr 30)(hb:x.f.Behind w x.pa x.oa):fS w (some ⟨B,0,none⟩) [x]:=by
 refine⟨oY (by decide) Fa (.inr ⟨B,0,rfl,h.1,fun j v hv=>?_⟩),fun y hy=>?_⟩
 ·rw[Nat.zero_add,h.cell j,←hv,←Array.getElem?_toList];simp[aF.cells]
 ·rw[List.mem_singleton] at hy;subst hy;exact hb
theorem pK{fs:List aE}{f:aE}(h:aL fs f=0):bC fs f=eZ fs f:=by unfold bC;rw[if_neg (by simpa using h)]
theorem vJ{fs:List aE}{f:aE}(h1:dF fs=0)(h2:dQ f=0):aL fs f=0:=by unfold aL;rw[if_neg (by simp[h1,h2])]
end
end Go.Proofs.YtbcebibkpfklnaaGreatDoor
