/- Awake32A Awake32 Elections Great32 ElectionDefaultLaw -/
import Derived.Test.YtbcebibkpfklnaaGreatDoorJMem
import Derived.Test.YtbcebibkpfklnaaGreatDoorJWhereA
import Derived.Test.YtbcebibkpfklnaaGreatDoorJRowF
import Derived.Test.YtbcebibkpfklnaaGreatDoorJGreat2
import Derived.Lib.SliceRun
set_option maxHeartbeats 16000000
set_option maxRecDepth 100000
namespace Go.Proofs.YtbcebibkpfklnaaGreatDoor
section
open Go Go.RowKit Num
def Et(key:List UInt8)(d ch:Int):aE:=⟨key,0,false,d,11,[97,98,99],[],[],[109],[],[],[],⟨[],[]⟩,⟨[],[]⟩,⟨[],[]⟩,[],[],ch⟩
def pF(key:List UInt8)(d ch:Int):aF:=⟨Et key d ch,none,0,none,0⟩
def xH:aE:=⟨[109],0,false,20,10,[97,98,99],[],[],[],[],[],[],⟨[],[]⟩,⟨[],[]⟩,⟨[],[]⟩,[],[⟨[],⟨[],[]⟩,⟨[53],[]⟩,⟨[],[]⟩⟩,⟨[],⟨[],[]⟩,⟨[54],[]⟩,⟨[],[]⟩⟩],0⟩
def oP(g:Nat):aF:=⟨xH,none,0,some ⟨g,0,none⟩,2⟩
def xF(g:Nat):List aF:=[pF [97] 15 1,pF [98] 18 0,oP g]
theorem aAo(key:List UInt8)(d ch:Int)(h:key.length≤1000):(pF key d ch).ok:=by
 refine⟨⟨h,by simp[pF,Et],by simp[pF,Et],by simp[pF,Et],by simp[pF,Et],by simp[pF,Et],by simp[pF,Et],by simp[pF,Et],⟨by simp[pF,Et],by simp[pF,Et]⟩,⟨by simp[pF,Et],by simp[pF,Et]⟩,⟨by simp[pF,Et],by simp[pF,Et]⟩,by simp[pF,Et],fun p hp=>?_,by simp[pF,Et],fun o ho=>?_⟩,by simp[pF,Et]⟩
 ·cases hp
 ·cases ho
theorem Va(g:Nat):(oP g).ok:=by
 refine⟨⟨by simp[oP,xH],by simp[oP,xH],by simp[oP,xH],by simp[oP,xH],by simp[oP,xH],by simp[oP,xH],by simp[oP,xH],by simp[oP,xH],⟨by simp[oP,xH],by simp[oP,xH]⟩,⟨by simp[oP,xH],by simp[oP,xH]⟩,⟨by simp[oP,xH],by simp[oP,xH]⟩,by simp[oP,xH],fun p hp=>?_,by simp[oP,xH],fun o ho=>?_⟩,by simp[oP,xH]⟩
 ·cases hp
 ·have:o=⟨[],⟨[],[]⟩,⟨[53],[]⟩,⟨[],[]⟩⟩∨o=⟨[],⟨[],[]⟩,⟨[54],[]⟩,⟨[],[]⟩⟩:=by simpa[oP,xH] using ho
  rcases this with rfl|rfl <;> exact⟨by simp,⟨by simp,by simp⟩,⟨by simp,by simp⟩,⟨by simp,by simp⟩⟩
theorem Cy(key:List UInt8)(d ch:Int)(w:World):(pF key d ch).f.Behind w none none:=⟨.inl rfl,.inl rfl⟩
def lG:List Value:=[.string ⟨#[]⟩,.string ⟨#[]⟩,.string ⟨#[]⟩,.string ⟨#[53]⟩,.string ⟨#[]⟩,.string ⟨#[]⟩,.string ⟨#[]⟩,.string ⟨#[]⟩,.string ⟨#[]⟩,.string ⟨#[]⟩,.string ⟨#[54]⟩,.string ⟨#[]⟩,.string ⟨#[]⟩,.string ⟨#[]⟩]
theorem vF{g:Nat}{w:World}(h:aP w g lG.toArray 42):(oP g).f.Behind w none (some ⟨g,0,none⟩):=by
 refine⟨.inl rfl,.inr ⟨g,0,rfl,h.1,fun k cs hk j v hv=>?_⟩⟩;have hc:=h.cell (0+k*7+j);rw[hc];have hk':[[Value.string ⟨#[]⟩,.string ⟨#[]⟩,.string ⟨#[]⟩,.string ⟨#[53]⟩,.string ⟨#[]⟩,.string ⟨#[]⟩,.string ⟨#[]⟩],[.string ⟨#[]⟩,.string ⟨#[]⟩,.string ⟨#[]⟩,.string ⟨#[54]⟩,.string ⟨#[]⟩,.string ⟨#[]⟩,.string ⟨#[]⟩]][k]?=some cs:=hk
 match k,hk' with
 |0,e =>
  obtain rfl:=Option.some.inj e
  match j,hv with
  |0,hv|1,hv|2,hv|3,hv|4,hv|5,hv|6,hv=>exact hv
  |j+7,hv=>simp at hv
 |1,e =>
  obtain rfl:=Option.some.inj e
  match j,hv with
  |0,hv|1,hv|2,hv|3,hv|4,hv|5,hv|6,hv=>exact hv
  |j+7,hv=>simp at hv
 |k+2,e=>simp at e
theorem Cx(key:List UInt8)(d ch:Int)(w:World):
  Calls Tryz.prog 36 #[.string ⟨key.toArray⟩,.int .i64 d,.int .i64 ch] w fun e w'=>e=.returned (.agg (pF key d ch).arr)∧Below w.heap.size w w':=by
 have KZ:=Hd (aP.new0 w eS 30);have HB:=Hd (aB w (.cells eS 30));have HSZ:Hid ((Tryz.prog.info? 30).map (·.size)=some (pF key d ch).arr.size):=eA;have HS2:Hid (eS.size=(pF key d ch).arr.size):=rfl;have HONE:=Hd (dV (pF key d ch));obtain⟨cs,hcs⟩:∃cs,cs=(pF key d ch).arr:=⟨_,rfl⟩
 rw[←hcs] at HSZ HS2 HONE ⊢;have HCS:=Hd hcs;clear hcs;go_enter Tryz.func36,Tryz.ntmps36;go_wp2_with (refine wpList_store_row rfl 30 _ _ rfl w.heap.size cs rfl (by rw[HCS.out];rfl) 30 eS KZ.out.2 HSZ.out HS2.out HONE.out ?_);refine bodyPost_ret (v:=.agg cs) (results_cell_row Tryz.results36 _ _ w.heap.size 30 cs (0,0) _ rfl (setRow_heap _ _ _ _ _ _ KZ.out.2) Tryz.underlying30 rfl HSZ.out) rfl ⟨rfl,?_⟩;exact below_setRow HB.out (Nl _) cs
theorem mZ(w:World):
  Calls Tryz.prog 37 #[] w fun e w'=>∃g,e=.returned (.agg (oP g).arr)∧aP w' g lG.toArray 42∧Below w.heap.size w w':=by
 have KZ:=(aP.new0 w eS 30).below (aB _ (.cells lG.toArray 42));have KX:=aP.new0 (w.alloc (.cells eS 30)) lG.toArray 42;rw[World.size_alloc] at KX;have KZ:=Hd KZ;have KX:=Hd KX;have HB:=Hd (aA (aB w (.cells eS 30)) (aB _ (.cells lG.toArray 42)));have HSZ:Hid ((Tryz.prog.info? 30).map (·.size)=some (oP (w.heap.size+1)).arr.size):=eA;have HS2:Hid (eS.size=(oP (w.heap.size+1)).arr.size):=rfl;have HONE:=Hd (dV (oP (w.heap.size+1)));obtain⟨cs,hcs⟩:∃cs,cs=(oP (w.heap.size+1)).arr:=⟨_,rfl⟩
 rw[←hcs] at HSZ HS2 HONE;have HCS:=Hd hcs;clear hcs;go_enter Tryz.func37,Tryz.ntmps37;go_wp2_with (refine wpList_store_row rfl 30 _ _ rfl w.heap.size cs rfl (by rw[HCS.out];rfl) 30 eS KZ.out.2 HSZ.out HS2.out HONE.out ?_);refine bodyPost_ret (v:=.agg cs) (results_cell_row Tryz.results37 _ _ w.heap.size 30 cs (0,0) _ rfl (setRow_heap _ _ _ _ _ _ KZ.out.2) Tryz.underlying30 rfl HSZ.out) rfl ⟨w.heap.size+1,by rw[HCS.out],pM KX.out (by omega),?_⟩;exact below_setRow HB.out (Nl _) cs
def Ig:List aE:=[Et [97] 15 1,Et [98] 18 0,xH]
theorem Eo(g:Nat):(xF g).map aF.f=Ig:=rfl
theorem Lr:dF Ig=0:=by decide +kernel
theorem xG:bC Ig xH=0∧aL Ig xH=0:=by decide +kernel
theorem tV:bC (Ig.take 1) xH=1∧aL (Ig.take 1) xH=0:=by decide +kernel
theorem Rb:dZ Ig=[[97]]:=by decide +kernel
end
section
open Go Go.RowKit Num
theorem Kb(x y z:aF)(w:World):(Instr.buildSlice 22 3 #[(0,.agg x.arr),(1,.agg y.arr),(2,.agg z.arr)]).run Tryz.prog w=.ok (.slice (some ⟨w.heap.size,0,none⟩) 3 3) (w.alloc (.cells (x.arr++y.arr++z.arr) 30)):=by
 unfold aF.arr aE.cells;simp[go_sem]
theorem lA{P:Program}{ops:Array Oper}{rest:List Oper}{o:Oper}{a:Act}{w w':World}{Q:Exit→Act→World→Prop}(hgd:o.guard=none)(t:TypeId)(n:Nat)(ps:Array (Nat×Operand))(ho:o.op=.buildSlice t n ps)(qs:Array (Nat×Value))(v:Value)
  (hps:(ps.map fun (i,x)=>(i,a.eval x))=qs) (hrun:(Instr.buildSlice t n qs).run P w=.ok v w') (h:wpList P ops Q rest (a.put o.dst v) w'):wpList P ops Q (o::rest) a w:=by
 refine wpList_plain hgd fun K hK=>Dp ho (v:=v) (w':=w') ?_ (hK _ _ h)
 rw[hps];exact hrun
theorem Fy{w:World}{B:Nat}(x y z:aF)(h:w.heap[B]?=some (.cells (x.arr++y.arr++z.arr) 30 (0,0))):gJ w (some ⟨B,0,none⟩) 21 ([x,y,z].map aF.cells):=by
 refine oY (by decide) Fa (.inr ⟨B,0,rfl,(Ai.1 h).1,fun j v hv=>?_⟩);rw[aS h,←hv,←Array.getElem?_toList];simp[aF.cells]
noncomputable def aAp:Array Oper:=(Tryz.f11.body.bind (jE 3)).getD #[]
def Zy:List (Nat×Nat):=[(0,19),(1,20),(2,21),(3,22),(4,18),(5,23),(6,24),(7,4),(8,5)]
structure Nb where
 W0:World
 B:Nat
def awV(B:Nat):Nat→Value
 |0=>.slice (some ⟨B,0,none⟩) 3 3
 |1=>.slice (some ⟨B,0,none⟩) 1 3
 |3=>.tuple #[.int .i64 1,.int .i64 0]
 |4=>.tuple #[.int .i64 1,.int .i64 0]
 |5=>.int .i64 1
 |6=>.int .i64 0
 |7=>.int .i64 1
 |_=>.int .i64 0
def Nb.val(C:Nb)(γ:Nat)(j:Nat):Value:=if j=2 then .agg (oP γ).arr else awV C.B j
def Nb.g(C:Nb)(γ:Nat)(l:Array Bool)(W:World):Prop:=Below C.W0.heap.size C.W0 W∧(lP l 2→aP W γ lG.toArray 42)
section
variable {C:Nb}{t0:Array Value}{Q:Exit→Act→World→Prop}{l:Array Bool}{w:World}{γ:Nat}
theorem Nb.keep{i:Nat}(hi:i≠2)(h:C.g γ l w):C.g γ (l.setIfInBounds i true) w:=⟨h.1,fun h2=>h.2 (mQ h2 (Ne.symm hi))⟩
theorem Rq(hsz0:t0.size=48)(ht1:t0[1]?=some (.slice (some ⟨C.B,0,none⟩) 3 3))(hch:∀g W,Below C.W0.heap.size C.W0 W→aP W g lG.toArray 42→Calls Tryz.prog 12 #[.slice (some ⟨C.B,0,none⟩) 1 3,.agg (oP g).arr] W fun e w'=>e=.returned (.tuple #[.int .i64 1,.int .i64 0])∧Below W.heap.size W w')
  {a:Act}(hdf:a.defers=[]) (ht:a.tmps=t0) (hw:w.drewN 1=C.W0)
  (hQ:∀ γ W,Below C.W0.heap.size C.W0 W→Q .normal { tmps:=iZ (C.val γ) Zy t0,defers:=[] } W):(Code.region 3 aAp true).wp Tryz.prog Q a w:=by
 have hsz:aAp.size=9:=by kernel_rfl
 refine eV (ds:=Zy) (val:=C.val) (G:=C.g) (by kernel_rfl) (by kernel_rfl) (by decide) (fun p hp=>?_) (by kernel_rfl) ?_ (γ:=0) hdf ht ⟨by rw[hw];exact Br _ _,fun h=>absurd h (Gu _ _)⟩ (fun γ _ W _ hg=>hQ γ W hg.1)
 ·rw[hsz0];have:∀p,p∈Zy→p.2<48:=by decide
  exact this p hp
 ·intro γ l a w i H hr;have hi:i<9:=by
   obtain⟨_,o,ho,_⟩:=mem_ready.1 hr;have:=(Ai.1 ho).1;rw[hsz] at this;exact this
  have t1:=H.low (s:=1) (by decide) ht1
  match i,hi,hr with
  |0,_,hr=>exact aH (X:=.move (.tmp 1)) (by kernel_rfl) (fun o h=>by simp[execOp,h,t1,go_sem];rfl) rfl (Nb.keep (by decide) H.g)
  |1,_,hr =>
   have v0:a.tmps[19]?=some (.slice (some ⟨C.B,0,none⟩) 3 3):=H.dep hr 0 19 (by kernel_rfl) ⟨rfl,by decide⟩;exact aH (X:=.slice 22 (.tmp 19) none (some (.const (.int .i64 1))) none) (by kernel_rfl) (fun o h=>by simp[execOp,h,v0,go_sem];rfl) rfl (Nb.keep (by decide) H.g)
  |2,_,hr =>
   refine gA (f:=37) (lb:=#[]) (c:=.func 37) (args:=#[]) (ts:=#[]) (vs:=#[]) (by kernel_rfl) rfl (enters_of Tryz.func37 (by kernel_rfl) rfl) (by simp) ((mZ _).mono ?_);rintro e w' ⟨g,rfl,hx,hb⟩;refine⟨_,g,rfl,rfl,fun j hj=>?_,aA H.g.1 hb,fun _=>hx⟩;have:j≠2:=fun e=>lZ (mem_ready.1 hr).1 (e ▸ hj)
   unfold Nb.val;rw[if_neg this,if_neg this]
  |3,_,hr =>
   have v1:a.tmps[20]?=some (.slice (some ⟨C.B,0,none⟩) 1 3):=H.dep hr 1 20 (by kernel_rfl) ⟨rfl,by decide⟩;have v2:a.tmps[21]?=some (.agg (oP γ).arr):=H.dep hr 2 21 (by kernel_rfl) ⟨rfl,by decide⟩;have hx:=H.g.2 (aG hr (d:=2) (by kernel_rfl));refine gA (f:=12) (lb:=#[]) (c:=.func 12) (args:=#[.tmp 20,.tmp 21]) (ts:=#[22,30]) (vs:=#[.slice (some ⟨C.B,0,none⟩) 1 3,.agg (oP γ).arr]) (by kernel_rfl) rfl (enters_of Tryz.func12 (by kernel_rfl) rfl) (by simp[Act.eval,v1,v2]) ((hch γ _ H.g.1 hx).mono ?_);rintro e w' ⟨rfl,hb⟩;exact⟨_,γ,rfl,rfl,fun _ _=>rfl,aA H.g.1 hb,fun _=>hx.below hb⟩
  |4,_,hr =>
   have v0:a.tmps[22]?=some (.tuple #[.int .i64 1,.int .i64 0]):=H.dep hr 3 22 (by kernel_rfl) ⟨rfl,by decide⟩;exact aH (X:=.move (.tmp 22)) (by kernel_rfl) (fun o h=>by simp[execOp,h,v0,go_sem];rfl) rfl (Nb.keep (by decide) H.g)
  |5,_,hr =>
   have v0:a.tmps[18]?=some (.tuple #[.int .i64 1,.int .i64 0]):=H.dep hr 4 18 (by kernel_rfl) ⟨rfl,by decide⟩;exact aH (X:=.extract (.tmp 18) 0) (by kernel_rfl) (fun o h=>by simp[execOp,h,v0,go_sem];rfl) rfl (Nb.keep (by decide) H.g)
  |6,_,hr =>
   have v0:a.tmps[18]?=some (.tuple #[.int .i64 1,.int .i64 0]):=H.dep hr 4 18 (by kernel_rfl) ⟨rfl,by decide⟩;exact aH (X:=.extract (.tmp 18) 1) (by kernel_rfl) (fun o h=>by simp[execOp,h,v0,go_sem];rfl) rfl (Nb.keep (by decide) H.g)
  |7,_,hr =>
   have v0:a.tmps[23]?=some (.int .i64 1):=H.dep hr 5 23 (by kernel_rfl) ⟨rfl,by decide⟩;exact aH (X:=.assign (.tmp 23)) (by kernel_rfl) (fun o h=>by simp[execOp,h,v0,go_sem];rfl) rfl (Nb.keep (by decide) H.g)
  |8,_,hr =>
   have v0:a.tmps[24]?=some (.int .i64 0):=H.dep hr 6 24 (by kernel_rfl) ⟨rfl,by decide⟩;exact aH (X:=.assign (.tmp 24)) (by kernel_rfl) (fun o h=>by simp[execOp,h,v0,go_sem];rfl) rfl (Nb.keep (by decide) H.g)
  |n+9,h,_=>exact absurd h (by omega)
end
theorem nR(w:World)(hE:iE w):Calls Tryz.prog 11 #[] w fun e w'=>e=.returned (.bool true)∧Below w.heap.size w w':=by
 have HE:=Hd hE;clear hE;go_enter Tryz.func11,Tryz.ntmps11;go_wp2_with fail;refine(Cx [97] 15 1 _).mono ?_;rintro e w1 ⟨rfl,hb⟩;have HB:=Hd hb;clear hb;go_wp2_with fail;refine(Cx [98] 18 0 _).mono ?_;rintro e w2 ⟨rfl,hb⟩;have HB:=Hd (aA HB.out hb);clear hb;go_wp2_with fail;refine(mZ _).mono ?_;rintro e w3 ⟨g0,rfl,hx0,hb⟩;have HB:=Hd (aA HB.out hb);clear hb;obtain⟨w4,hw4⟩:∃w4,w4=w3.alloc (.cells ((pF [97] 15 1).arr++(pF [98] 18 0).arr++(oP g0).arr) 30):=⟨_,rfl⟩
 have HRUN:=Kb (pF [97] 15 1) (pF [98] 18 0) (oP g0) w3;rw[←hw4] at HRUN;have HRUN:=Hd HRUN;have HB:=Hd (show Below w.heap.size w w4 by rw[hw4];exact aA HB.out (aB _ _));have hx4:aP w4 g0 lG.toArray 42:=by rw[hw4];exact hx0.below (aB _ _)
 have HV:Hid (gT w4 (some ⟨w3.heap.size,0,none⟩) 3 (xF g0)):=by
  refine⟨⟨?_,fun x hx=>?_⟩,fun x hx=>?_,by show 3≤_;decide⟩
  ·exact Fy _ _ _ (by rw[hw4];exact heap_alloc_new w3 _)
  ·have:x=pF [97] 15 1∨x=pF [98] 18 0∨x=oP g0:=by simpa[xF] using hx
   rcases this with rfl|rfl|rfl
   ·exact Cy _ _ _ _
   ·exact Cy _ _ _ _
   ·exact vF hx4
  ·have:x=pF [97] 15 1∨x=pF [98] 18 0∨x=oP g0:=by simpa[xF] using hx
   rcases this with rfl|rfl|rfl
   ·exact aAo _ _ _ (by decide)
   ·exact aAo _ _ _ (by decide)
   ·exact Va _
 clear hw4 hx0 hx4;have HA1:=Hd (show (pF [97] 15 1).arr=(pF [97] 15 1).arr from rfl);generalize hq1:(pF [97] 15 1).arr=q1 at HRUN ⊢;generalize hq2:(pF [98] 18 0).arr=q2 at HRUN ⊢;generalize hq3:(oP g0).arr=q3 at HRUN ⊢;clear hq1 hq2 hq3 HA1;generalize w3.heap.size=B at *;have HC0:Hid (∀g W,Below w4.heap.size w4 W→aP W g lG.toArray 42→Calls Tryz.prog 12 #[.slice (some ⟨B,0,none⟩) 3 3,.agg (oP g).arr] W fun e w'=>e=.returned (.tuple #[.int .i64 0,.int .i64 0])∧Below W.heap.size W w'):=fun g W hb hx=>by
  have h:=fE (xF g0) (some ⟨B,0,none⟩) 3 (oP g) W (HE.out.below (aA HB.out hb)) (HV.out.below hb) (Va g) (vF hx);rw[Eo,show (oP g).f=xH from rfl,xG.1,xG.2] at h;exact h
 have HC1:Hid (∀g W,Below w4.heap.size w4 W→aP W g lG.toArray 42→Calls Tryz.prog 12 #[.slice (some ⟨B,0,none⟩) 1 3,.agg (oP g).arr] W fun e w'=>e=.returned (.tuple #[.int .i64 1,.int .i64 0])∧Below W.heap.size W w'):=fun g W hb hx=>by
  have hv:=HV.out.below hb;have h:=fE [pF [97] 15 1] (some ⟨B,0,none⟩) 3 (oP g) W (HE.out.below (aA HB.out hb)) ⟨⟨hv.facts.1.take 1,fun x hx=>hv.facts.2 x (by rw[List.mem_singleton] at hx;subst hx;simp[xF])⟩,fun x hx=>hv.ok x (by rw[List.mem_singleton] at hx;subst hx;simp[xF]),by decide⟩ (Va g) (vF hx);rw[show [pF [97] 15 1].map aF.f=Ig.take 1 from rfl,show (oP g).f=xH from rfl,tV.1,tV.2] at h;exact h
 have HL:Hid (∀W,Below w4.heap.size w4 W→Calls Tryz.prog 21 #[.slice (some ⟨B,0,none⟩) 3 3] W fun e w'=>∃a c,e=.returned (.tuple #[.slice a 1 c,.int .i64 0])∧dT w' a (iS [[97]])∧Below W.heap.size W w'):=fun W hb=>by
  refine(Gz (xF g0) (some ⟨B,0,none⟩) 3 W (HE.out.below (aA HB.out hb)) (HV.out.below hb) (by rw[Eo];exact Lr)).mono ?_;rintro e w' ⟨⟨v,rfl,hv⟩,hb'⟩;rw[Eo,Rb] at hv;obtain⟨a,c,rfl,hr⟩:=gK hv;exact⟨a,c,rfl,hr,hb'⟩
 have HEQ:Hid (∀a a2 c c2 W,dT W a (iS [[97]])→dT W a2 (iS [[97]])→Calls Tryz.prog 29 #[.slice a 1 c,.slice a2 1 c2] W fun e w'=>e=.returned (.bool true)∧Below W.heap.size W w'):=fun a a2 c c2 W h1 h2=>by
  have:=Ep [[97]] [[97]] a a2 c c2 W (by decide) (by decide) h1 h2;simpa using this
 clear HV;go_wp2_with (refine lA rfl 22 3 _ rfl #[(0,.agg q1),(1,.agg q2),(2,.agg q3)] _ (by simp[Act.eval]) HRUN.out ?_);refine(mZ _).mono ?_;rintro e w5 ⟨g1,rfl,hx1,hb⟩;have HB5:=Hd hb;have HX1:=Hd hx1;clear hb hx1;go_wp2_with fail;refine(HC0.out g1 _ HB5.out HX1.out).mono ?_;rintro e w6 ⟨rfl,hb⟩;have HB6:=Hd (aA HB5.out hb);clear hb HB5 HX1 HC0;go_wp2_with fail;refine Rq (C:=⟨w6.drewN 1,B⟩) rfl rfl (fun g W hb hx=>HC1.out g W ((aD HB6.out 1).trans (hb.mono HB6.out.size)) hx) rfl rfl rfl ?_;intro γ w7 hb7;have HB7:=Hd ((aD HB6.out 1).trans (hb7.mono HB6.out.size));clear hb7 HB6 HC1;simp only[iZ,Zy,List.foldl,List.setIfInBounds_toArray,List.set_cons_zero,List.set_cons_succ,Nb.val,awV,Nat.reduceEqDiff,if_true,if_false];go_wp2_with fail;refine(HL.out _ HB7.out).mono ?_;rintro e w8 ⟨a,c,rfl,hr,hb⟩;have HB8:=Hd (aA HB7.out hb);have HR8:=Hd (hr.below (aB w8 (.cells #[.string ⟨#[97]⟩] 9)));have HN8:Hid (dT (w8.alloc (.cells #[.string ⟨#[97]⟩] 9)) (some ⟨w8.heap.size,0,none⟩) (iS [[97]])):=.inr ⟨w8.heap.size,0,rfl,by simp,fun j v hv=>by
  have h:=heap_alloc_new w8 (.cells #[.string ⟨#[97]⟩] 9);rw[aS h,←hv]
  match j with
  |0=>rfl
  |j+1=>rfl⟩
 have HB9:=Hd (aA HB8.out (aB w8 (.cells #[.string ⟨#[97]⟩] 9)));clear hr hb HB7 HL;go_wp2_with fail;refine(HEQ.out _ _ _ _ _ HR8.out HN8.out).mono ?_;rintro e w9 ⟨rfl,hb⟩;have HB10:=Hd (aA HB9.out hb);clear hb;go_wp2;go_ret;exact⟨rfl,(HB.out.trans (HB10.out.mono HB.out.size))⟩
end
section
open Go Go.RowKit Go.Shelf Num
def lR(key:List UInt8)(y:aE):Bool:=decide (y.kind=11)&&(y.target==key)
theorem Af(x:aF)(key:List UInt8)(bk:Nat)(w:World)(hb:aP w bk #[.string ⟨key.toArray⟩] 9):
  Calls Tryz.prog 46 #[.agg x.arr,.pointer (some ⟨bk,0,none⟩)] w fun e w'=>e=.returned (.bool (lR key x.f))∧Below w.heap.size w w':=by
 have KX:=aP.new0 w x.arr 30;have x4:=(KX.cell 4).trans (show _=some (.int .i64 x.f.kind) from rfl);have x8:=(KX.cell 8).trans (show _=some (.string ⟨x.f.target.toArray⟩) from rfl);have ck:=((hb.below (aB w (.cells x.arr 30))).cell 0).trans (show _=some (.string ⟨key.toArray⟩) from rfl);have HB0:=Hd (aB w (.cells x.arr 30));have HR:Hid (lR key x.f=(decide (x.f.kind=11)&&(x.f.target==key))):=rfl;clear KX hb;generalize lR key x.f=res at *;generalize x.arr=xc at *;generalize x.f.kind=k at *;generalize x.f.target=tg at *
 by_cases h1:k=11
 ·subst h1;cases h2:(tg==key) with
  |true =>
   have HV:Hid (res=true):=by show _=_;rw[HR.out,h2];rfl
   clear HR;go_enter Tryz.func46,Tryz.ntmps46;go_wp2;go_ret;exact⟨by rw[HV.out];rfl,HB0.out⟩
  |false =>
   have HV:Hid (res=false):=by show _=_;rw[HR.out,h2];rfl
   clear HR;go_enter Tryz.func46,Tryz.ntmps46;go_wp2;go_ret;exact⟨by rw[HV.out];rfl,HB0.out⟩
 ·have h1':(k==11)=false:=by simpa using h1
  have HV:Hid (res=false):=by show _=_;rw[HR.out];simp[h1]
  clear HR;go_enter Tryz.func46,Tryz.ntmps46;go_wp2;go_ret;exact⟨by rw[HV.out];rfl,HB0.out⟩
theorem tF(fc:Array Value)(hs:fc.size=21)(w:World):(Instr.buildSlice 22 1 #[(0,.agg fc)]).run Tryz.prog w=.ok (.slice (some ⟨w.heap.size,0,none⟩) 1 1) (w.alloc (.cells fc 30)):=by
 obtain⟨l⟩:=fc
 match l,hs with
 | [a0,a1,a2,a3,a4,a5,a6,a7,a8,a9,a10,a11,a12,a13,a14,a15,a16,a17,a18,a19,a20],_=>simp[go_sem]
theorem yK{F:Fence}{n:Nat}{P:Program}{ops:Array Oper}{Q:Exit→Act→World→Prop}{a:Act}{w w':World}{rest:List Oper}{o:Oper}(hgd:Region.wanted o (yielded ops a.tmps)=true)(t:TypeId)(m:Nat)(ps:Array (Nat×Operand))(ho:o.op=.buildSlice t m ps)(qs:Array (Nat×Value))(v:Value)
  (hps:(ps.map fun (i,x)=>(i,a.eval x))=qs) (hrun:(Instr.buildSlice t m qs).run P w=.ok v w') (h:wpListIn F n P ops Q rest (a.put o.dst v) w'):wpListIn F n P ops Q (o::rest) a w:=by
 refine wpListIn_step fun K hK=>?_
 rw[if_pos hgd];refine⟨fun f hf=>(by unfold Oper.about at hf;rw[ho] at hf;cases hf),?_⟩;rw[Oper.semAt_plain F _ _ (by rw[ho];intro c hc;cases hc)];have e:(execOp a.eval o).run P w=.ok (.value v) w':=by
  unfold execOp;simp only[ho];rw[hps];simp[hrun,Result.andThen]
 rw[e];exact hK _ _ h
theorem Qf{W:World}{B:Nat}{fc:Array Value}{T:TypeId}(hB:W.heap[B]?=some (.cells fc T (0,0))):∀j u,fc.toList[j]?=some u→W.cell? ((⟨B,0,none⟩:Addr).add j)=some u:=by
 intro j u hu;rw[lM,Nat.zero_add,aS hB j,←Array.getElem?_toList];exact hu
def aAn(sk sl:Value)(N o bl bi:Nat)(s7 s17:Value):Array Value:=#[sl,sk,undef,.pointer (some ⟨N,0,none⟩),.slice none 0 0,.int .i64 0,.pointer (some ⟨o,0,none⟩),s7,sl,.int .i64 0,.bool false,sk,.bool true,.bool false,sl,.func (.func 46) #[] #[.pointer (some ⟨N,0,none⟩)],.func (.func 74) #[] #[.pointer (some ⟨bl,0,none⟩),.pointer (some ⟨bi,0,none⟩)],s17,undef,undef,undef,undef,undef]
attribute [local go_sem] Oper.semAt_some
theorem Bt(xs:List aF)(a:Option Addr)(c:Nat)(key:List UInt8)(w:World)(hE:iE w)(hv:gT w a c xs)(hvc:dF (xs.map aF.f)=0)(hkl:key.length≤1000)(hkn:dC key=true):
  Calls Tryz.prog 20 #[.slice a xs.length c,.string ⟨key.toArray⟩] w fun e w'=>(∃v,e=.returned (.tuple #[v,.int .i64 0])∧w'.ownsRow w.heap.size 30 21 v (eF xs (lR key) 0).length (pX (eF xs (lR key) 0)))∧Below w.heap.size w w':=by
 obtain⟨i0,hi,hz0,hz1,hz2⟩:=info_parts Ul;have HVC:Hid (∀W,Below w.heap.size w W→Calls Tryz.prog 38 #[.slice a xs.length c] W fun e w'=>e=.returned (.int .i64 0)∧Below W.heap.size W w'):=fun W hbw=>by have:=lC xs a c W (hE.below hbw) hv.len (hv.facts.below hbw) hv.ok;rw[hvc] at this;exact this
 have hn:=hv.len;have HR:=Hd hv.facts;have HINF:=Hd (And.intro hi (And.intro hz0 (And.intro hz1 hz2)));clear hE hv hvc hi hz0 hz1 hz2;have HNM:Hid (∀W,Calls Tryz.prog 44 #[.string ⟨key.toArray⟩] W fun e w'=>e=.returned (.bool true)∧Below W.heap.size W w'):=fun W=>by have:=qW key W (by omega);rw[hkn] at this;exact this
 clear hkn;refine(callsIn_wide (n:=12)).1 ?_;refine callsIn_of_wp_marks Tryz.func20 rfl trivial ?_ rfl;simp only[Tryz.ntmps20,List.size_toArray,List.length_cons,List.length_nil,Nat.reduceAdd,Nat.reduceSub,Array.replicate_succ,Array.replicate_zero,List.push_toArray,List.append_toArray,List.nil_append,List.cons_append];have b1:=aB w (.cells #[.string ⟨key.toArray⟩] 9);have KS:=Hd (aP.new0 w #[.string ⟨key.toArray⟩] 9);have HB0:=Hd b1;have cS:=KS.out.cell 0;clear b1;gi_wp2_with fail;refine⟨trivial,(callsIn_wide.2 (HVC.out _ HB0.out)).mono ?_⟩;rintro e w0 ⟨rfl,hb0⟩;have KS:=Hd (KS.out.below hb0);have cS:=KS.out.cell 0;have HB0:=Hd (aA HB0.out hb0);have HLT0:Hid (w.heap.size<w0.heap.size):=by have:=hb0.size;rw[World.size_alloc] at this;exact this
 clear hb0 HVC;gi_wp2_with fail;refine⟨trivial,(callsIn_wide.2 (HNM.out _)).mono ?_⟩;rintro e w1 ⟨rfl,hb1⟩;have KS:=Hd ((KS.out.below hb1).below (aB w1 (.cells #[.slice none 0 0] 22)));have KO:=Hd (aP.new0 w1 #[.slice none 0 0] 22);have HB1:=Hd (aA (aA HB0.out hb1) (aB w1 (.cells #[.slice none 0 0] 22)));have HLT:Hid (w.heap.size<w1.heap.size):=Nat.lt_of_lt_of_le HLT0.out hb1.size;have cS:=KS.out.cell 0;have HSZ1:Hid ((w1.alloc (.cells #[.slice none 0 0] 22)).heap.size=w1.heap.size+1):=World.size_alloc _ _;clear hb1 HNM HB0 HLT0;gi_wp2_with fail;refine⟨trivial,(callsIn_wide.2 (qZ _ _ _ _ _ _)).mono ?_⟩;rintro e w3 ⟨bl,bi,rfl,lbl,lbi,kbl,kbi,hb3⟩;have KS:=Hd (KS.out.below hb3);have KO:=Hd (KO.out.below hb3);have HB3:=Hd (aA HB1.out hb3);have HW3:Hid (w1.heap.size+1≤w3.heap.size∧w1.heap.size+1≤bl∧w1.heap.size+1≤bi):=by have h1:=HSZ1.out;have h2:=hb3.size;show _∧_;omega
 have KBL:=Hd kbl;have KBI:=Hd kbi;clear lbl lbi kbl kbi hb3 HB1 HSZ1 cS;obtain⟨o,ho⟩:∃o,o=w1.heap.size:=⟨_,rfl⟩
 rw[←ho] at KO HW3 HLT ⊢;clear ho;obtain⟨P,hP⟩:∃P:Nat→Prop,P=fun k=>k<w3.heap.size∧k≠o:=⟨_,rfl⟩
 have HPP:Hid (∀k,P k↔k<w3.heap.size∧k≠o):=fun k=>by rw[hP]
 clear hP;have HBW:Hid (∀W,eK P w3 W→Below w.heap.size w W):=fun W hW=>HB3.out.trans (hW.below fun k hk=>(HPP.out k).2 ⟨by have:=HB3.out.size;omega,by have:=HLT.out;omega⟩)
 have hg:=nK 11 xs a c bl bi 46 #[.pointer (some ⟨w.heap.size,0,none⟩)] (lR key) P w3 hn (enters_of Tryz.func46 (by kernel_rfl) rfl) (fun k hk=>((HPP.out k).1 hk).1) (fun W hW=>by
  have h2:=HW3.out;exact⟨HR.out.below (HBW.out W hW),hW.box ((HPP.out bl).2 ⟨KBL.out.1,by omega⟩) KBL.out,hW.box ((HPP.out bi).2 ⟨KBI.out.1,by omega⟩) KBI.out,fun x _ W' hW'=>Af x key _ W' ((hW.box ((HPP.out _).2 ⟨KS.out.1,by have:=HLT.out;omega⟩) KS.out).below hW')⟩)
 have HG:=Hd hg;clear hg KBL KBI;gi_wp2_with fail;refine wpIn_rangeFunc_ownH (F:=Fence.wide) rfl (by decide) (gf:=74) (lb:=#[.pointer (some ⟨bl,0,none⟩),.pointer (some ⟨bi,0,none⟩)]) rfl trivial (enters_of Tryz.func74 (by kernel_rfl) rfl) HG.out
  (fun h k=>h.trans k) (fun W l o' o'' hl _ _ _=>eK.putObj W l o'' fun hp=>absurd ((HPP.out l).1 hp).1 (by omega)) (Br _ _) (fun _=>rfl)
  (fun pre W=>(∃v,Boxed W o 22 v∧W.ownsRow w3.heap.size 30 21 v pre.length (pX pre)∧True)∧(eK P w3 W∧w3.heap.size≤W.heap.size))
  (fun _ _ _=>False)
  (OwnFrom.and (Own.from (holdsRow_own w3.heap.size o 22 30 21 (fun pre:List aF=>pre.length) pX (fun _ _=>True)) _) (OwnFrom.and (tI (fun k hk=>⟨((HPP.out k).1 hk).1,((HPP.out k).1 hk).1⟩)) (fun _ A B row hs hg _=>Nat.le_trans hs hg.size)))
  (fun _ _ _ _ _ hs _ _=>hs)
  ⟨⟨_,aP.boxed KO.out,World.ownsRow_nil _ _ _ _,trivial⟩,eK.refl _ _,Nl _⟩
  (fun x a' W=>∃Bx,w3.heap.size≤Bx∧aP W Bx x.arr 30∧a' = { tmps:=aAn (.string ⟨key.toArray⟩) (.slice a xs.length c) w.heap.size o bl bi (.pointer (some ⟨Bx,0,none⟩)) (.agg x.arr),defers:=[] })
  (fun x a' _ A B row hs hg hr=>by obtain⟨Bx,h1,h2,h3⟩:=hs;exact⟨Bx,h1,nP Bx _ (fun (_:Unit)=>x.arr) () A B row h2 hg (fun r e=>(hr r e).2),h3⟩)
  ?assign ?body ?done ?stop
 case assign =>
  rintro l pre x W K ⟨⟨v,hvb,hvr,_⟩,hk,hsz⟩ hK;have HN:=Hd (heap_alloc_new W (.cells eS 30));have HBA:=Hd (aB W (.cells eS 30));have HKA:=Hd (KeepsOthers.alloc W (.cells eS 30));have HSX:Hid ((Tryz.prog.info? 30).map (·.size)=some x.arr.size):=aY x.f x.pa x.oa x.pc x.oc;have HS21:Hid (eS.size=x.arr.size):=rfl;have HONE:=Hd (dV x);have HKK:=Hd hK;have HVB:=Hd hvb;have HVR:=Hd hvr;have HKP:=Hd hk;unfold Lu;clear hvb hvr hk hK;gi_wp2_with (refine bQ (by rfl) 30 _ _ rfl W.heap.size rfl x.arr rfl HN.out HSX.out HS21.out HONE.out ?_;intro w4 kx bx ko kot _);have hb4:=HBA.out.trans (bx _ (Nl _));have hk4:eK P W w4:=eK.of_below hb4 (fun k hk=>Nat.lt_of_lt_of_le ((HPP.out k).1 hk).1 hsz);have hgr4:=gZ hb4;exact HKK.out _ _ ((HKA.out.trans ko).from _) hk4 ⟨⟨v,HVB.out.kept hgr4 (by simp),HVR.out.kept hgr4 (by cases h:v.ownBlock <;> simp),trivial⟩,HKP.out.trans hk4,Nat.le_trans hsz hb4.size⟩ ⟨W.heap.size,hsz,kx,rfl⟩
 case body =>
  rintro l pre x a' W hl ⟨r,hr⟩ ⟨⟨v,hvb,hvr,_⟩,hkp,hsz⟩ ⟨Bx,hBx,kX,rfl⟩ hlt;unfold aAn;have HKP:=Hd hkp;have HVB:=Hd hvb;have HVR:=Hd hvr;have HKX:=Hd kX;have cO:=hvb.cell;have HSX:Hid ((Tryz.prog.info? 30).map (·.size)=some x.arr.size):=aY x.f x.pa x.oa x.pc x.oc;have HRUN:=Hd (tF x.arr rfl W);have HNC:=Hd (Qf (heap_alloc_new W (.cells x.arr 30)));have HONE:Hid (∀u∈x.arr.toList,u.oneCell'=true):=fun u hu=>(Array.all_eq_true_iff_forall_mem.1 (dV x)) u (by simpa using hu)
  have HLN:Hid (x.arr.toList.length=1*21):=rfl;have HFA:Hid (pX (pre ++ [x])=pX pre++x.arr.toList):=by show _=_;rw[Ei,Qy]
  clear hkp hvb hvr kX hr;gi_wp2_with (first|(refine eP (by rfl) 30 _ rfl Bx rfl x.arr _ HKX.out Tryz.underlying30 rfl HSX.out ?_;simp only[pS])|(refine yK (by rfl) 22 1 _ rfl #[(0,.agg x.arr)] _ (by simp[Act.eval]) HRUN.out ?_;simp only[pS])|(gi_at_builtin;refine wpListIn_append_own _ rfl _ _ 22 rfl w3.heap.size 30 i0 aAh 21 312 Tryz.underlying22 HINF.out.1 HINF.out.2.1 HINF.out.2.2.1 HINF.out.2.2.2 rfl (by decide) _ _ _ rfl (HVR.out.alloc _) ⟨W.heap.size,0,none⟩ 1 1 x.arr.toList rfl HLN.out HNC.out HONE.out (by unfold maxLen;omega) (by omega) (by simp;omega) ?_;intro v' w1 hown' hgrow _;obtain⟨g',cap',rfl⟩:=ownsRow_succ hown';obtain⟨hv1,hv2,hr2,hk2,hb2⟩:=Dc HVB.out (by decide) HVR.out hsz (fun j hj=>(HPP.out j).1 hj) hown' hgrow;have hc1:=hv1.cell;have hf1:=hv1.frozen;have HE1:=Hd hv2;have HE2:=Hd hr2;have HE3:=Hd hk2;have HE4:=Hd hb2;clear hv2 hr2 hk2 hb2 hown' hgrow));exact⟨HE3.out.from _,HE4.out,⟨_,HE1.out,by rw[HFA.out,List.length_append];exact HE2.out,trivial⟩,HKP.out.trans HE4.out,Nat.le_trans hsz HE4.out.size⟩
 case done =>
  rintro D ys W hD rfl ⟨⟨v,hvb,hvr,_⟩,hk,hsz⟩ hK;have cO:=hvb.cell;have HB:=Hd (HBW.out W hk);have HK:=Hd hK;have HVR:=Hd hvr;have HHD:=Hd hD;clear hvb hvr hk hK hD;gi_wp2;refine⟨by simp,.inl ⟨_,_,rfl,run_takeDeferred HK.out,?_⟩⟩;refine⟨_,results_tmp2 rfl _ _ _,⟨v,rfl,?_⟩,HB.out.trans (belowK_b (w:=w) (Nl _) W D _ _ (by have:=HB3.out.size;have:=HHD.out;omega) HK.out rfl rfl)⟩;exact Ck (ownsRow_putObj HVR.out _ HK.out rfl) HB3.out.size
 case stop =>
  rintro D c pre W _ _ h _;exact h.elim
end
section
open Go Go.RowKit Num
theorem Bp(xs:List aF)(a:Option Addr)(c:Nat)(w:World)(hn:xs.length≤9223372036854775807)(hr:fS w a xs)(hf:∀x,x∈xs→x.fits):
  Calls Tryz.prog 33 #[.slice a xs.length c] w fun e w'=>uK ((∀x,x∈xs→x.f.tight)∧(xs.length≤12∨1000<xs.length∧xs.length≤1003)) e∧Below w.heap.size w w':=by
 have HR:=Hd hr;have HF:=Hd hf;clear hr hf
 by_cases hbad:(12<xs.length∧xs.length≤1000)∨1002<xs.length
 ·clear HR HF;generalize xs.length=n at *;rcases hbad with⟨h1,h2⟩|h1
  ·have d1:decide (12<(n:Int))=true:=by simpa using(by omega:(12:Int)<n)
   have d2:decide ((n:Int)≤1000)=true:=by simpa using(by omega:(n:Int)≤1000)
   go_enter Tryz.func33,Tryz.ntmps33;go_wp2;go_ret;exact⟨⟨true,rfl,fun h=>by cases h⟩,Br _ _⟩
  ·have d1:decide (12<(n:Int))=true:=by simpa using(by omega:(12:Int)<n)
   have d2:decide ((n:Int)≤1000)=false:=by simpa using(by omega:¬ (n:Int)≤1000)
   have d3:decide (1002<(n:Int))=true:=by simpa using(by omega:(1002:Int)<n)
   go_enter Tryz.func33,Tryz.ntmps33;go_wp2;go_ret;exact⟨⟨true,rfl,fun h=>by cases h⟩,Br _ _⟩
 have HSZ0:Hid (xs.length≤12∨1000<xs.length∧xs.length≤1003):=by show _∨_;omega
 by_cases h12:12<xs.length
 ·have h1000:¬ (xs.length:Int)≤1000:=by omega
  have h1002:¬ (1002:Int)<xs.length:=by omega
  go_enter Tryz.func33,Tryz.ntmps33;go_wp2_with fail;go_loopw [3] (fun iv wr=>∃k:Nat,k≤xs.length∧iv=.int .i64 k∧Hid (∀j x,j<k→xs[j]?=some x→x.f.tight)∧Hid (Below w.heap.size w wr)) (fun iv _=>xs.length-(intOf iv).toNat)
  case atStart=>exact⟨0,Nat.zero_le _,rfl,fun j x h=>absurd h (Nat.not_lt_zero j),Br _ _⟩
  case round =>
   obtain⟨k,hk,rfl,HS,HB⟩:=hrel
   by_cases hlt:k<xs.length
   ·obtain⟨x,hx⟩:∃x,xs[k]?=some x:=⟨xs[k],Lg hlt⟩
    obtain⟨b,off,rfl,hbl,hc⟩:=HR.out.1.addr (k:=k) (cs:=x.cells) (by rw[List.getElem?_map,hx];rfl);have hxm:=List.mem_of_getElem? hx;have hfx:=HF.out x hxm;have HC:Hid (∀j v,x.arr.toList[j]?=some v→wr.cell? ⟨b,off+k*21+j,none⟩=some v):=fun j v hv=>(HB.out.cell (p:=⟨b,off+k*21+j,none⟩) hbl).trans (hc j v hv)
    have HSZ:Hid ((Tryz.prog.info? 30).map (·.size)=some x.arr.size):=aY x.f x.pa x.oa x.pc x.oc;have HG:Hid (Calls Tryz.prog 35 #[.agg x.arr] wr fun e w'=>(∃g,e=.returned (.bool g)∧(g=false→x.f.tight))∧Below wr.heap.size wr w'):=qH x.f x.pa x.oa x.pc x.oc wr ((HR.out.2 x hxm).below HB.out) (by have:=hfx.npicks;unfold maxLen at this;omega) (by have:=hfx.noptions;unfold maxLen at this;omega);have HK:Hid (x.f.tight→∀j y,j<k+1→xs[j]?=some y→y.f.tight):=fun h j y hj hy=>by
     by_cases e:j=k
     ·subst e;rw[hx] at hy;injection hy with hy;subst hy;exact h
     ·exact HS.out j y (by omega) hy
    clear HS hc hx hxm hfx;generalize x.arr=fc at *;go_wp2_with (refine aM rfl 30 _ rfl b (off+k*21) rfl fc _ HC.out Tryz.underlying30 rfl HSZ.out ?_);refine HG.out.mono ?_;rintro e w1 ⟨⟨g,rfl,hg⟩,hb⟩;have HB1:=Hd (aA HB.out hb);cases g with
    |true =>
     go_wp2;go_ret;exact⟨⟨true,rfl,fun h=>by cases h⟩,HB1.out⟩
    |false =>
     have HK2:=Hd (HK.out (hg rfl));clear hg HK;go_wp2;go_roundw
     case rel=>exact⟨k+1,by omega,by go_num,HK2,HB1⟩
     case measure=>simp[intOf];omega
   ·obtain rfl:k=xs.length:=by omega
    have HA:Hid (∀x,x∈xs→x.f.tight):=fun x hx=>by
     obtain⟨j,hj⟩:=List.getElem?_of_mem hx;exact HS.out j x (Li.1 hj).1 hj
    clear HS;go_wp2;go_ret;exact⟨⟨_,rfl,fun _=>⟨HA.out,HSZ0.out⟩⟩,HB.out⟩
 ·have h1002:¬ (1002:Int)<xs.length:=by omega
  go_enter Tryz.func33,Tryz.ntmps33;go_wp2_with fail;go_loopw [3] (fun iv wr=>∃k:Nat,k≤xs.length∧iv=.int .i64 k∧Hid (∀j x,j<k→xs[j]?=some x→x.f.tight)∧Hid (Below w.heap.size w wr)) (fun iv _=>xs.length-(intOf iv).toNat)
  case atStart=>exact⟨0,Nat.zero_le _,rfl,fun j x h=>absurd h (Nat.not_lt_zero j),Br _ _⟩
  case round =>
   obtain⟨k,hk,rfl,HS,HB⟩:=hrel
   by_cases hlt:k<xs.length
   ·obtain⟨x,hx⟩:∃x,xs[k]?=some x:=⟨xs[k],Lg hlt⟩
    obtain⟨b,off,rfl,hbl,hc⟩:=HR.out.1.addr (k:=k) (cs:=x.cells) (by rw[List.getElem?_map,hx];rfl);have hxm:=List.mem_of_getElem? hx;have hfx:=HF.out x hxm;have HC:Hid (∀j v,x.arr.toList[j]?=some v→wr.cell? ⟨b,off+k*21+j,none⟩=some v):=fun j v hv=>(HB.out.cell (p:=⟨b,off+k*21+j,none⟩) hbl).trans (hc j v hv)
    have HSZ:Hid ((Tryz.prog.info? 30).map (·.size)=some x.arr.size):=aY x.f x.pa x.oa x.pc x.oc;have HG:Hid (Calls Tryz.prog 35 #[.agg x.arr] wr fun e w'=>(∃g,e=.returned (.bool g)∧(g=false→x.f.tight))∧Below wr.heap.size wr w'):=qH x.f x.pa x.oa x.pc x.oc wr ((HR.out.2 x hxm).below HB.out) (by have:=hfx.npicks;unfold maxLen at this;omega) (by have:=hfx.noptions;unfold maxLen at this;omega);have HK:Hid (x.f.tight→∀j y,j<k+1→xs[j]?=some y→y.f.tight):=fun h j y hj hy=>by
     by_cases e:j=k
     ·subst e;rw[hx] at hy;injection hy with hy;subst hy;exact h
     ·exact HS.out j y (by omega) hy
    clear HS hc hx hxm hfx;generalize x.arr=fc at *;go_wp2_with (refine aM rfl 30 _ rfl b (off+k*21) rfl fc _ HC.out Tryz.underlying30 rfl HSZ.out ?_);refine HG.out.mono ?_;rintro e w1 ⟨⟨g,rfl,hg⟩,hb⟩;have HB1:=Hd (aA HB.out hb);cases g with
    |true =>
     go_wp2;go_ret;exact⟨⟨true,rfl,fun h=>by cases h⟩,HB1.out⟩
    |false =>
     have HK2:=Hd (HK.out (hg rfl));clear hg HK;go_wp2;go_roundw
     case rel=>exact⟨k+1,by omega,by go_num,HK2,HB1⟩
     case measure=>simp[intOf];omega
   ·obtain rfl:k=xs.length:=by omega
    have HA:Hid (∀x,x∈xs→x.f.tight):=fun x hx=>by
     obtain⟨j,hj⟩:=List.getElem?_of_mem hx;exact HS.out j x (Li.1 hj).1 hj
    clear HS;go_wp2;go_ret;exact⟨⟨_,rfl,fun _=>⟨HA.out,HSZ0.out⟩⟩,HB.out⟩
def Wh(P:Prop)(e:Ending):Prop:=∃i:Int,e=.returned (.int .i64 i)∧(decide (0≤i)=false→P)
theorem zS(xs:List aF)(a:Option Addr)(c:Nat)(w:World)(hn:xs.length≤1000000)(hr:fS w a xs)(hf:∀x,x∈xs→x.fits):
  Calls Tryz.prog 49 #[.slice a xs.length c,.func (.func 35) #[] #[]] w fun e w'=>Wh (∀x,x∈xs→x.f.tight) e∧Below w.heap.size w w':=by
 have HR:=Hd hr;have HF:=Hd hf;clear hr hf;go_enter Tryz.func49,Tryz.ntmps49;go_wp2_with fail;go_loopw [8] (fun iv wr=>∃k:Nat,k≤xs.length∧iv=.int .i64 k∧Hid (∀j x,j<k→xs[j]?=some x→x.f.tight)∧Hid (Below w.heap.size w wr)) (fun iv _=>xs.length-(intOf iv).toNat)
 case atStart=>exact⟨0,Nat.zero_le _,rfl,fun j x h=>absurd h (Nat.not_lt_zero j),Br _ _⟩
 case round =>
  obtain⟨k,hk,rfl,HS,HB⟩:=hrel
  by_cases hlt:k<xs.length
  ·obtain⟨x,hx⟩:∃x,xs[k]?=some x:=⟨xs[k],Lg hlt⟩
   obtain⟨b,off,rfl,hbl,hc⟩:=HR.out.1.addr (k:=k) (cs:=x.cells) (by rw[List.getElem?_map,hx];rfl);have hxm:=List.mem_of_getElem? hx;have hfx:=HF.out x hxm;have HC:Hid (∀j v,x.arr.toList[j]?=some v→wr.cell? ⟨b,off+k*21+j,none⟩=some v):=fun j v hv=>(HB.out.cell (p:=⟨b,off+k*21+j,none⟩) hbl).trans (hc j v hv)
   have HSZ:Hid ((Tryz.prog.info? 30).map (·.size)=some x.arr.size):=aY x.f x.pa x.oa x.pc x.oc;have HG:Hid (Calls Tryz.prog 35 #[.agg x.arr] wr fun e w'=>(∃g,e=.returned (.bool g)∧(g=false→x.f.tight))∧Below wr.heap.size wr w'):=qH x.f x.pa x.oa x.pc x.oc wr ((HR.out.2 x hxm).below HB.out) (by have:=hfx.npicks;unfold maxLen at this;omega) (by have:=hfx.noptions;unfold maxLen at this;omega);have HK:Hid (x.f.tight→∀j y,j<k+1→xs[j]?=some y→y.f.tight):=fun h j y hj hy=>by
    by_cases e:j=k
    ·subst e;rw[hx] at hy;injection hy with hy;subst hy;exact h
    ·exact HS.out j y (by omega) hy
   clear HS hc hx hxm hfx;generalize x.arr=fc at *;go_wp2_with (refine aM rfl 30 _ rfl b (off+k*21) rfl fc _ HC.out Tryz.underlying30 rfl HSZ.out ?_);refine HG.out.mono ?_;rintro e w1 ⟨⟨g,rfl,hg⟩,hb⟩;have HB1:=Hd (aA HB.out hb);cases g with
   |true =>
    go_wp2;go_ret;exact⟨⟨_,rfl,fun h=>by simp at h⟩,HB1.out⟩
   |false =>
    have HK2:=Hd (HK.out (hg rfl));clear hg HK;go_wp2;go_roundw
    case rel=>exact⟨k+1,by omega,by go_num,HK2,HB1⟩
    case measure=>simp[intOf];omega
  ·obtain rfl:k=xs.length:=by omega
   have HA:Hid (∀x,x∈xs→x.f.tight):=fun x hx=>by
    obtain⟨j,hj⟩:=List.getElem?_of_mem hx;exact HS.out j x (Li.1 hj).1 hj
   clear HS;go_wp2;go_ret;exact⟨⟨_,rfl,fun _=>HA.out⟩,HB.out⟩
theorem uD(xs:List aF)(a:Option Addr)(c:Nat)(w:World)(hn:xs.length≤1000000)(hr:fS w a xs)(hf:∀x,x∈xs→x.fits):
  Calls Tryz.prog 34 #[.slice a xs.length c,.func (.func 35) #[] #[]] w fun e w'=>uK (∀x,x∈xs→x.f.tight) e∧Below w.heap.size w w':=by
 have HI:=Hd (zS xs a c w hn hr hf);clear hr hf hn;generalize(∀x,x∈xs→x.f.tight)=P at *;generalize xs.length=n at *;go_enter Tryz.func34,Tryz.ntmps34;go_wp2_with fail;refine HI.out.mono ?_;rintro e w1 ⟨⟨i,rfl,hi⟩,hb⟩;go_wp2;go_ret;exact⟨⟨_,rfl,hi⟩,hb⟩
theorem nJ(xs ys:List aF)(a a2:Option Addr)(c c2:Nat)(w:World)(hn:xs.length≤9223372036854775807)(hr:fS w a xs)(hf:∀x,x∈xs→x.fits)(hn2:ys.length≤1000000)(hr2:fS w a2 ys)(hf2:∀x,x∈ys→x.fits):
  Calls Tryz.prog 10 #[.slice a xs.length c,.slice a2 ys.length c2] w fun e w'=>uK (((∀x,x∈xs→x.f.tight)∧(xs.length≤12∨1000<xs.length∧xs.length≤1003))∧∀y,y∈ys→y.f.tight) e∧Below w.heap.size w w':=by
 have HG:=Hd (Bp xs a c w hn hr hf);have HC:Hid (∀W,Below w.heap.size w W→Calls Tryz.prog 34 #[.slice a2 ys.length c2,.func (.func 35) #[] #[]] W fun e w'=>uK (∀y,y∈ys→y.f.tight) e∧Below W.heap.size W w'):=fun W hb=>uD ys a2 c2 W hn2 (hr2.below hb) hf2
 clear hr hf hn hr2 hf2 hn2;generalize((∀x,x∈xs→x.f.tight)∧(xs.length≤12∨1000<xs.length∧xs.length≤1003))=P at *;generalize(∀y,y∈ys→y.f.tight)=R at *;generalize xs.length=n at *;generalize ys.length=m at *;go_enter Tryz.func10,Tryz.ntmps10;go_wp2_with fail;refine HG.out.mono ?_;rintro e w1 ⟨⟨g,rfl,hg⟩,hb⟩;have HB1:=Hd hb;have HGG:=Hd hg;clear hg hb;cases g with
 |true =>
  go_wp2_with fail;go_ret;exact⟨⟨true,rfl,fun h=>by cases h⟩,HB1.out⟩
 |false =>
  have HP:=Hd (HGG.out rfl);clear HGG;go_wp2_with fail;refine(HC.out _ HB1.out).mono ?_;rintro e w2 ⟨⟨g2,rfl,hg2⟩,hb2⟩;have HB2:=Hd (aA HB1.out hb2);have HG2:=Hd hg2;clear hg2 hb2;go_wp2_with fail;go_ret;exact⟨⟨_,rfl,fun h=>⟨HP.out,HG2.out h⟩⟩,HB2.out⟩
end
section
open Go Go.RowKit Num
theorem uV{w:World}{B:Nat}(x:aF)(h:aP w B x.arr 30)(hb:x.f.Behind w x.pa x.oa):fS w (some ⟨B,0,none⟩) [x]:=by
 refine⟨oY (by decide) Fa (.inr ⟨B,0,rfl,h.1,fun j v hv=>?_⟩),fun y hy=>?_⟩
 ·rw[Nat.zero_add,h.cell j,←hv,←Array.getElem?_toList];simp[aF.cells]
 ·rw[List.mem_singleton] at hy;subst hy;exact hb
theorem oS{fs:List aE}{f:aE}(h:aL fs f=0):dF fs=0∧dQ f=0:=by
 unfold aL at h;split at h
 ·cases h
 ·rename_i h';exact⟨by rcases Decidable.em (dF fs=0) with h|h;exact h;exact absurd (.inl h) h',by rcases Decidable.em (dQ f=0) with h|h;exact h;exact absurd (.inr h) h'⟩
theorem pK{fs:List aE}{f:aE}(h:aL fs f=0):bC fs f=eZ fs f:=by unfold bC;rw[if_neg (by simpa using h)]
theorem Mh{fs:List aE}{f:aE}(h:aL fs f≠0):bC fs f=0:=by unfold bC;rw[if_pos h]
theorem vJ{fs:List aE}{f:aE}(h1:dF fs=0)(h2:dQ f=0):aL fs f=0:=by unfold aL;rw[if_neg (by simp[h1,h2])]
theorem Fs{f:aE}(h:dQ f=0):dC f.key=true :=
 ((mY (nM (iR h).1 (by rw[(iR h).2];decide))).1 (iR h).1).1
theorem Sd(xs:List aF)(p:aE→Bool):(eF xs p 0).map aF.f=(xs.map aF.f).filter p:=by
 rw[mG,List.filter_map];rfl
theorem Fu{xs:List aF}{p:aE→Bool}{x:aF}(h:x∈eF xs p 0):x∈xs:=by
 rw[mG] at h;exact(List.mem_filter.1 h).1
theorem Se(xs:List aF)(p:aE→Bool):(eF xs p 0).length≤xs.length:=by rw[mG];exact List.length_filter_le _ _
theorem pD(xs:List aF)(x:aF)(a:Option Addr)(c:Nat)(w:World)(hE:iE w)(hn:xs.length≤9223372036854775807)(_hcap:xs.length≤c)(hr:fS w a xs)(hf:∀x,x∈xs→x.fits)(hb:x.f.Behind w x.pa x.oa)(hfx:x.fits):
  Calls Tryz.prog 5 #[.slice a xs.length c,.agg x.arr] w fun e w'=>e=.returned (.bool true)∧Below w.heap.size w w':=by
 have KX:=Hd (aP.new0 w x.arr 30);have HB0:=Hd (aB w (.cells x.arr 30));have HRUN0:=tF x.arr rfl (w.alloc (.cells x.arr 30));rw[World.size_alloc] at HRUN0;have HRUN:=Hd HRUN0;have HBr:=aB (w.alloc (.cells x.arr 30)) (.cells x.arr 30);have KR:=aP.new0 (w.alloc (.cells x.arr 30)) x.arr 30;have HB1:=Hd (aA HB0.out HBr);have KX1:=Hd (KX.out.below HBr);rw[World.size_alloc] at KR;have HG0:=nJ xs [x] a (some ⟨w.heap.size+1,0,none⟩) c 1 ((w.alloc (.cells x.arr 30)).alloc (.cells x.arr 30)) hn (hr.below HB1.out) hf (by simp) (uV x KR (hb.below HB1.out)) (by intro y hy;rw[List.mem_singleton] at hy;subst hy;exact hfx);rw[show [x].length=1 from rfl] at HG0;have HG:=Hd HG0;have HAW:Hid (∀W,Below w.heap.size w W→Calls Tryz.prog 11 #[] W fun e w'=>e=.returned (.bool true)∧Below W.heap.size W w'):=fun W hb=>nR W (hE.below hb)
 have HE:=Hd hE;have HR:=Hd hr;have HF:=Hd hf;have HFX:=Hd hfx;have HBX:=Hd hb;have HSZ:Hid ((Tryz.prog.info? 30).map (·.size)=some x.arr.size):=aY x.f x.pa x.oa x.pc x.oc;have HX0:Hid (x.arr[0]?=some (.string ⟨x.f.key.toArray⟩)∧x.arr[19]?=some (.slice x.oa x.f.options.length x.oc)):=⟨rfl,rfl⟩
 obtain⟨fc,hfc⟩:∃fc,fc=x.arr:=⟨_,rfl⟩
 have HFC:=Hd hfc;rw[←hfc] at KX KX1 HB0 HB1 HG HSZ HRUN HX0 ⊢;clear hE hr hf hb hfx hfc HBr KR HRUN0 HG0;go_enter Tryz.func5,Tryz.ntmps5;go_wp2_with (first|(refine wpList_load_row rfl 30 _ rfl w.heap.size rfl 30 fc (0,0) _ KX.out.2 Tryz.underlying30 rfl HSZ.out ?_;simp only[pS])|(refine lA rfl 22 1 _ rfl #[(0,.agg fc)] _ (by simp[Act.eval]) HRUN.out ?_;simp only[pS]));refine HG.out.mono ?_;rintro e w1 ⟨⟨g,rfl,hg⟩,hb⟩;have KX:=Hd (KX1.out.below hb);have HB1:=Hd (aA HB1.out hb);have HGS:=Hd hg;clear hb hg HG KX1 HRUN HB0;cases g with
 |true =>
  go_wp2_with fail;refine(HAW.out _ HB1.out).mono ?_;rintro e w2 ⟨rfl,hb⟩;go_wp2;go_ret;exact⟨rfl,aA HB1.out hb⟩
 |false =>
  have HSM:=Hd (HGS.out rfl);have HTX:Hid x.f.tight:=(HGS.out rfl).2 x (by simp);clear HGS;have hlen:xs.length≤1003:=by rcases HSM.out.1.2 with h|h <;> omega
  have HV:Hid (gT w a c xs):=⟨HR.out,fun y hy=>⟨(HSM.out.1.1 y hy).small,(HF.out y hy).picks⟩,by omega⟩
  have HXO:Hid x.ok:=⟨HTX.out.small,HFX.out.picks⟩
  obtain⟨fs,hfs⟩:∃fs,fs=xs.map aF.f:=⟨_,rfl⟩
  have HCH:Hid (∀W,Below w.heap.size w W→Calls Tryz.prog 12 #[.slice a xs.length c,.agg fc] W fun e w'=>e=.returned (.tuple #[.int .i64 (bC fs x.f),.int .i64 (aL fs x.f)])∧Below W.heap.size W w'):=fun W hb=>by
   rw[HFC.out,hfs];exact fE xs a c x W (HE.out.below hb) (HV.out.below hb) HXO.out (HBX.out.below hb)
  have HCL:Hid (∀(ys:List aF) (a':Option Addr) (c':Nat) W,Below w.heap.size w W→gT W a' c' ys→Calls Tryz.prog 12 #[.slice a' ys.length c',.agg fc] W fun e w'=>e=.returned (.tuple #[.int .i64 (bC (ys.map aF.f) x.f),.int .i64 (aL (ys.map aF.f) x.f)])∧Below W.heap.size W w'):=fun ys a' c' W hb hv=>by
   rw[HFC.out];exact fE ys a' c' x W (HE.out.below hb) hv HXO.out (HBX.out.below hb)
  have HEL:Hid (aL fs x.f=0→∀W,Below w.heap.size w W→Calls Tryz.prog 20 #[.slice a xs.length c,.string ⟨x.f.key.toArray⟩] W fun e w'=>∃a' c',e=.returned (.tuple #[.slice a' (eF xs (lR x.f.key) 0).length c',.int .i64 0])∧gT w' a' c' (eF xs (lR x.f.key) 0)∧Below W.heap.size W w'):=fun h W hb=>by
   rw[hfs] at h;refine(Bt xs a c x.f.key W (HE.out.below hb) (HV.out.below hb) (oS h).1 HXO.out.small.key (Fs (oS h).2)).mono ?_;rintro e w' ⟨⟨v,rfl,hv⟩,hb'⟩;obtain⟨a',c',rfl,hfa,_⟩:=Ad hv (fun y hy=>((HV.out.below hb).facts.2 y (Fu hy)).below hb');exact⟨a',c',rfl,⟨hfa,fun y hy=>HV.out.ok y (Fu hy),Nat.le_trans (Se _ _) HV.out.len⟩,hb'⟩
  have HPL:Hid (aL fs x.f=0→(aL [] x.f=0∧bC [] x.f=0)∧(aL ((eF xs (lR x.f.key) 0).map aF.f) x.f=0∧bC ((eF xs (lR x.f.key) 0).map aF.f) x.f=bC fs x.f)∧0≤bC fs x.f∧bC fs x.f<x.f.options.length):=fun h=>by
   obtain⟨h1,h2⟩:=oS h;have e1:aL [] x.f=0:=vJ Jq h2;have e2:(eF xs (lR x.f.key) 0).map aF.f=tW fs x.f.key:=by rw[Sd,hfs];rfl
   have e3:aL (tW fs x.f.key) x.f=0:=vJ (Jp h1 List.filter_sublist) h2;rw[e2,pK h,pK e1,pK e3,xX];exact⟨⟨e1,rfl⟩,⟨e3,rfl⟩,mC h1 h2⟩
  have HBAD:=Hd (@Mh fs x.f);have HNIL:Hid (∀W,gT W none 0 []):=fun W=>⟨⟨.inl rfl,fun y hy=>by cases hy⟩,fun y hy=>(by cases hy),by decide⟩
  clear HR HF HFX HSM HV HXO HTX HE hfs hlen;generalize bC fs x.f=cv at *;generalize aL fs x.f=er at *;generalize x.f.key=key at *;generalize x.f.options.length=ol at *;have c0:=(KX.out.cell 0).trans HX0.out.1;have c19:=(KX.out.cell 19).trans HX0.out.2;go_wp2_with (refine wpList_load_row rfl 30 _ rfl w.heap.size rfl 30 fc (0,0) _ KX.out.2 Tryz.underlying30 rfl HSZ.out ?_);refine(HCH.out _ HB1.out).mono ?_;rintro e w2 ⟨rfl,hb⟩;have KX:=Hd (KX.out.below hb);have HB2:=Hd (aA HB1.out hb);have c0:=(KX.out.cell 0).trans HX0.out.1;clear hb HCH HB1 c19
  by_cases he:er=0
  ·subst he;have HPM:=Hd (HPL.out rfl);have HEM:=Hd (HEL.out rfl);clear HBAD HPL HEL;go_wp2_with fail;refine(HEM.out _ HB2.out).mono ?_;rintro e w3 ⟨a',c',rfl,hva,hb⟩;have KX:=Hd (KX.out.below hb);have HB3:=Hd (aA HB2.out hb);have HVA:=Hd hva;clear hb hva HEM HB2 c0;have HC0:=HCL.out [] none 0 w3 HB3.out (HNIL.out _);rw[show ([]:List aF).map aF.f=[] from rfl,HPM.out.1.1,HPM.out.1.2] at HC0;have HC0:=Hd HC0;go_wp2_with (refine wpList_load_row rfl 30 _ rfl w.heap.size rfl 30 fc (0,0) _ KX.out.2 Tryz.underlying30 rfl HSZ.out ?_);refine HC0.out.mono ?_;rintro e w4 ⟨rfl,hb⟩;have KX:=Hd (KX.out.below hb);have HB4:=Hd (aA HB3.out hb);have HVA:=Hd (HVA.out.below hb);clear hb HC0 HB3;have HC1:=HCL.out _ a' c' w4 HB4.out HVA.out;rw[HPM.out.2.1.1,HPM.out.2.1.2] at HC1;have HC1:=Hd HC1;generalize(eF xs (lR key) 0).length=m at *;go_wp2_with (refine wpList_load_row rfl 30 _ rfl w.heap.size rfl 30 fc (0,0) _ KX.out.2 Tryz.underlying30 rfl HSZ.out ?_);refine HC1.out.mono ?_;rintro e w5 ⟨rfl,hb⟩;have KX:=Hd (KX.out.below hb);have HB5:=Hd (aA HB4.out hb);have c19:=(KX.out.cell 19).trans HX0.out.2;have h0:=HPM.out.2.2.1;have h1:=HPM.out.2.2.2;clear hb HC1 HB4 HVA HCL HPM;go_wp2_with fail;refine(HAW.out _ HB5.out).mono ?_;rintro e w6 ⟨rfl,hb⟩;go_wp2;go_ret;exact⟨rfl,aA HB5.out hb⟩
  ·have he':(er==0)=false:=by simpa using he
   have hcv:cv=0:=HBAD.out he;subst hcv;clear HBAD HPL HEL HCL;go_wp2_with fail;refine(HAW.out _ HB2.out).mono ?_;rintro e w3 ⟨rfl,hb⟩;go_wp2;go_ret;exact⟨rfl,aA HB2.out hb⟩
end
end Go.Proofs.YtbcebibkpfklnaaGreatDoor
