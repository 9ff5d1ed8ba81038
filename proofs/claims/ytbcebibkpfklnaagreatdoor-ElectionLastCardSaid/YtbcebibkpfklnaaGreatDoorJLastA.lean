/- ElectionLastReg ElectionLastLaw -/
import Derived.Test.YtbcebibkpfklnaaGreatDoorJMem
import Derived.Test.YtbcebibkpfklnaaGreatDoorJAfterB
import Derived.Test.YtbcebibkpfklnaaGreatDoorJElectionA
import Derived.Test.YtbcebibkpfklnaaGreatDoorJWhereA
import Derived.Test.YtbcebibkpfklnaaGreatDoorJRViewA
set_option maxHeartbeats 16000000
set_option maxRecDepth 100000
namespace Go.Proofs.YtbcebibkpfklnaaGreatDoor
section
open Go Go.RowKit Num
theorem aHz{Γ:Type}{P:Program}{ops:Array Oper}{val:Γ→Nat→Value}{G:Γ→Array Bool→World→Prop}{Q:Exit→Act→World→Prop}{γ γ':Γ}{l:Array Bool}{a:Act}{w:World}{i:Nat}{X:Op}{v:Value}{w':World}(hX:(ops[i]?).map (fun o=>(o.op,o.guard))=some (X,none))(hrun:∀o:Oper,o.op=X→(execOp a.eval o).run P w=.ok (.value v) w')(hv:v=val γ' i)(hs:∀j,lP l j→val γ' j=val γ j)(hg:G γ' (l.setIfInBounds i true) w'):wpOp P ops Q i (pY ops val G γ l a i) a w:=by
 cases ho:ops[i]? with
 |none=>rw[ho] at hX;cases hX
 |some o =>
  rw[ho] at hX;simp only[Option.map_some,Option.some.injEq,Prod.mk.injEq] at hX;refine bU ho hX.2 ?_;unfold Oper.wp;rw[hrun o hX.1];exact⟨o,v,γ',ho,rfl,hv,hs,hg⟩
def aH6(x:aF)(n:Int):aF:=⟨aIc x.f n,none,0,none,0⟩
noncomputable def aH3:Array Oper:=(Tryz.f8.body.bind (jE 3)).getD #[]
def aH4:List (Nat×Nat):=[(0,27),(1,28),(2,29),(3,30),(4,31),(5,32),(6,33),(7,34),(8,35),(9,36),(10,37),(11,38),(12,39),(13,7)]
structure aHv where
 W0:World
 b:Nat
 fc:Array Value
 zc:Array Value
 key:List UInt8
 ins:List UInt8
 day:Int
 ch:Int
 n:Int
 L:Nat
 oa:Option Addr
 oc:Nat
def aHv.val(C:aHv)(γ:Nat):Nat→Value
 |0=>.pointer (some ⟨C.b,3,none⟩)
 |1=>.int .i64 C.day
 |2=>.pointer (some ⟨C.b,5,none⟩)
 |3=>.string ⟨C.ins.toArray⟩
 |4=>.pointer (some ⟨C.b,0,none⟩)
 |5=>.string ⟨C.key.toArray⟩
 |6=>.int .u8 C.ch
 |7=>.int .i64 C.ch
 |8=>.pointer (some ⟨C.b,19,none⟩)
 |9=>.slice C.oa C.L C.oc
 |10=>.int .i64 (C.L:Int)
 |11=>.int .i64 C.n
 |12=>.agg C.zc
 |13=>.pointer (some ⟨γ,0,none⟩)
 |_=>undef
def aHv.gg(C:aHv)(γ:Nat)(l:Array Bool)(W:World):Prop:=Below C.W0.heap.size C.W0 W∧(lP l 14→lP l 13)∧(lP l 13→C.W0.heap.size≤γ∧(¬ lP l 14→aP W γ eS 30)∧(lP l 14→aP W γ C.zc 30))
theorem aHv.keep{C:aHv}{γ:Nat}{l:Array Bool}{w:World}{i:Nat}(h3:i≠13)(h4:i≠14)(h:C.gg γ l w):C.gg γ (l.setIfInBounds i true) w :=
 ⟨h.1,fun h'=>fH (h.2.1 (mQ h' (Ne.symm h4))),fun h'=>⟨(h.2.2 (mQ h' (Ne.symm h3))).1,fun hn=>(h.2.2 (mQ h' (Ne.symm h3))).2.1 fun hh=>hn (fH hh),fun hh=>(h.2.2 (mQ h' (Ne.symm h3))).2.2 (mQ hh (Ne.symm h4))⟩⟩
structure aH7(C:aHv)(t0:Array Value):Prop where
 sz:t0.size=76
 t2:t0[2]?=some (.int .u8 C.ch)
 t4:t0[4]?=some (.pointer (some ⟨C.b,0,none⟩))
 box:aP C.W0 C.b C.fc 30
 c0:C.fc[0]?=some (.string ⟨C.key.toArray⟩)
 c3:C.fc[3]?=some (.int .i64 C.day)
 c5:C.fc[5]?=some (.string ⟨C.ins.toArray⟩)
 c19:C.fc[19]?=some (.slice C.oa C.L C.oc)
 pos:0<C.L
 small:C.L≤1000000
 ch0:0≤C.ch
 ch9:C.ch<256
 rem:C.ch.tmod (C.L:Int)=C.n
 bld:∀W,(Instr.build 30 #[(0,.string ⟨#[122,122,122,122,122,122,122,122,122,122,122,122,122,122,122,122]⟩),(3,.int .i64 C.day),(4,.int .i64 11),(5,.string ⟨C.ins.toArray⟩),(8,.string ⟨C.key.toArray⟩),(17,.int .i64 C.n)]).run Tryz.prog W=.ok (.agg C.zc) W
 zsz:C.zc.size=21
 zone:C.zc.all (·.oneCell')=true
section
variable {C:aHv}{t0:Array Value}{Q:Exit→Act→World→Prop}
theorem aH5(M:aH7 C t0){a:Act}{w:World}(hdf:a.defers=[])(ht:a.tmps=t0)(hw:w.drewN 1=C.W0)
  (hQ:∀ γ W,Below C.W0.heap.size C.W0 W→C.W0.heap.size≤γ→aP W γ C.zc 30→Q .normal { tmps:=iZ (C.val γ) aH4 t0,defers:=[] } W):(Code.region 3 aH3 true).wp Tryz.prog Q a w:=by
 have hsz:aH3.size=15:=by kernel_rfl
 refine eV (ds:=aH4) (val:=C.val) (G:=C.gg) (by kernel_rfl) (by kernel_rfl) (by decide) (fun p hp=>?_) (by kernel_rfl) ?_ (γ:=0) hdf ht ⟨by rw[hw];exact Br _ _,fun h=>absurd h (Gu _ _),fun h=>absurd h (Gu _ _)⟩ (fun γ l W hall hg=>hQ γ W hg.1 (hg.2.2 (hall 13 (by rw[hsz];decide))).1 ((hg.2.2 (hall 13 (by rw[hsz];decide))).2.2 (hall 14 (by rw[hsz];decide))))
 ·rw[M.sz];have:∀p,p∈aH4→p.2<76:=by decide
  exact this p hp
 ·intro γ l a w i H hr;have hi:i<15:=by
   obtain⟨_,o,ho,_⟩:=mem_ready.1 hr;have:=(Ai.1 ho).1;rw[hsz] at this;exact this
  have t2:=H.low (s:=2) (by decide) M.t2;have t4:=H.low (s:=4) (by decide) M.t4;have hb:Below C.W0.heap.size C.W0 w:=H.g.1;have hB:=M.box.below hb
  match i,hi,hr with
  |0,_,hr =>
   refine aH (X:=.fieldAddr 30 (.tmp 4) 3) (v:=.pointer (some ⟨C.b,3,none⟩)) (by kernel_rfl) (fun o h=>?_) rfl (aHv.keep (by decide) (by decide) H.g)
   ·simp[execOp,h,t4,go_sem]
  |1,_,hr =>
   have v0:a.tmps[27]?=some (.pointer (some ⟨C.b,3,none⟩)):=H.dep hr 0 27 (by kernel_rfl) ⟨rfl,by decide⟩;have hc:=(hB.cell 3).trans M.c3;refine aH (X:=.load 23 (.tmp 27)) (v:=.int .i64 C.day) (by kernel_rfl) (fun o h=>?_) rfl (aHv.keep (by decide) (by decide) H.g)
   ·simp[execOp,h,v0,hc,go_sem]
  |2,_,hr =>
   refine aH (X:=.fieldAddr 30 (.tmp 4) 5) (v:=.pointer (some ⟨C.b,5,none⟩)) (by kernel_rfl) (fun o h=>?_) rfl (aHv.keep (by decide) (by decide) H.g)
   ·simp[execOp,h,t4,go_sem]
  |3,_,hr =>
   have v2:a.tmps[29]?=some (.pointer (some ⟨C.b,5,none⟩)):=H.dep hr 2 29 (by kernel_rfl) ⟨rfl,by decide⟩;have hc:=(hB.cell 5).trans M.c5;refine aH (X:=.load 9 (.tmp 29)) (v:=.string ⟨C.ins.toArray⟩) (by kernel_rfl) (fun o h=>?_) rfl (aHv.keep (by decide) (by decide) H.g)
   ·simp[execOp,h,v2,hc,go_sem]
  |4,_,hr =>
   refine aH (X:=.fieldAddr 30 (.tmp 4) 0) (v:=.pointer (some ⟨C.b,0,none⟩)) (by kernel_rfl) (fun o h=>?_) rfl (aHv.keep (by decide) (by decide) H.g)
   ·simp[execOp,h,t4,go_sem]
  |5,_,hr =>
   have v4:a.tmps[31]?=some (.pointer (some ⟨C.b,0,none⟩)):=H.dep hr 4 31 (by kernel_rfl) ⟨rfl,by decide⟩;have hc:=(hB.cell 0).trans M.c0;refine aH (X:=.load 9 (.tmp 31)) (v:=.string ⟨C.key.toArray⟩) (by kernel_rfl) (fun o h=>?_) rfl (aHv.keep (by decide) (by decide) H.g)
   ·simp[execOp,h,v4,hc,go_sem]
  |6,_,hr =>
   refine aH (X:=.move (.tmp 2)) (v:=.int .u8 C.ch) (by kernel_rfl) (fun o h=>?_) rfl (aHv.keep (by decide) (by decide) H.g)
   ·simp[execOp,h,t2,go_sem]
  |7,_,hr =>
   have v6:a.tmps[33]?=some (.int .u8 C.ch):=H.dep hr 6 33 (by kernel_rfl) ⟨rfl,by decide⟩;refine aH (X:=.convert 5 3 (.tmp 33)) (v:=.int .i64 C.ch) (by kernel_rfl) (fun o h=>?_) rfl (aHv.keep (by decide) (by decide) H.g)
   ·have e:IntKind.i64.wrap C.ch=C.ch:=by rw[IntKind.wrap_i64];have:=M.ch0;have:=M.ch9;omega
    simp[execOp,h,v6,go_sem,e]
  |8,_,hr =>
   refine aH (X:=.fieldAddr 30 (.tmp 4) 16) (v:=.pointer (some ⟨C.b,19,none⟩)) (by kernel_rfl) (fun o h=>?_) rfl (aHv.keep (by decide) (by decide) H.g)
   ·simp[execOp,h,t4,go_sem]
  |9,_,hr =>
   have v8:a.tmps[35]?=some (.pointer (some ⟨C.b,19,none⟩)):=H.dep hr 8 35 (by kernel_rfl) ⟨rfl,by decide⟩;have hc:=(hB.cell 19).trans M.c19;refine aH (X:=.load 28 (.tmp 35)) (v:=.slice C.oa C.L C.oc) (by kernel_rfl) (fun o h=>?_) rfl (aHv.keep (by decide) (by decide) H.g)
   ·simp[execOp,h,v8,hc,go_sem]
  |10,_,hr =>
   have v9:a.tmps[36]?=some (.slice C.oa C.L C.oc):=H.dep hr 9 36 (by kernel_rfl) ⟨rfl,by decide⟩;refine aH (X:=.call { callee:=.builtin .len,args:=#[.tmp 36],argTypes:=#[28] }) (v:=.int .i64 (C.L:Int)) (by kernel_rfl) (fun o h=>?_) rfl (aHv.keep (by decide) (by decide) H.g)
   ·simp[execOp,h,v9,go_sem]
  |11,_,hr =>
   have v7:a.tmps[34]?=some (.int .i64 C.ch):=H.dep hr 7 34 (by kernel_rfl) ⟨rfl,by decide⟩;have v10:a.tmps[37]?=some (.int .i64 (C.L:Int)):=H.dep hr 10 37 (by kernel_rfl) ⟨rfl,by decide⟩;refine aH (X:=.binOp .rem 3 (.tmp 34) (.tmp 37) 3) (v:=.int .i64 C.n) (by kernel_rfl) (fun o h=>?_) rfl (aHv.keep (by decide) (by decide) H.g)
   ·have hp:=M.pos;have hz:¬ ((C.L:Int)=0):=by omega
    have hrun:(Go.Op.intDiv .rem .i64 C.ch (C.L:Int)).run Tryz.prog w=.ok (.int .i64 C.n) w:=by unfold Go.Op.intDiv;rw[if_neg hz,M.rem];rfl
    simp[execOp,h,Act.eval,v7,v10,binOp,eqGuard,hrun]
  |12,_,hr =>
   have v1:a.tmps[28]?=some (.int .i64 C.day):=H.dep hr 1 28 (by kernel_rfl) ⟨rfl,by decide⟩;have v3:a.tmps[30]?=some (.string ⟨C.ins.toArray⟩):=H.dep hr 3 30 (by kernel_rfl) ⟨rfl,by decide⟩;have v5:a.tmps[32]?=some (.string ⟨C.key.toArray⟩):=H.dep hr 5 32 (by kernel_rfl) ⟨rfl,by decide⟩;have v11:a.tmps[38]?=some (.int .i64 C.n):=H.dep hr 11 38 (by kernel_rfl) ⟨rfl,by decide⟩;refine aH (X:=.build 30 #[(0,.const (.string ⟨#[122,122,122,122,122,122,122,122,122,122,122,122,122,122,122,122]⟩)),(3,.tmp 28),(4,.const (.int .i64 11)),(5,.tmp 30),(8,.tmp 32),(17,.tmp 38)]) (v:=.agg C.zc) (by kernel_rfl) (fun o h=>?_) rfl (aHv.keep (by decide) (by decide) H.g)
   ·have e:=M.bld w;simp[execOp,h,Act.eval,v1,v3,v5,v11,e]
  |13,_,hr =>
   have hn13:¬ lP l 13:=lZ (mem_ready.1 hr).1;refine aHz (γ':=w.heap.size) (X:=.alloc 30) (v:=.pointer (some ⟨w.heap.size,0,none⟩)) (w':=w.alloc (.cells eS 30)) (by kernel_rfl) (fun o h=>by simp[execOp,h,go_sem];rfl) rfl (fun j hj=>?_) ⟨hb.trans ((aB w _).mono hb.size),fun _=>zE (by rw[H.sz,hsz];decide),fun _=>⟨hb.size,fun _=>aP.new0 w _ _,fun h14=>absurd (H.g.2.1 (mQ h14 (by decide))) hn13⟩⟩
   by_cases e:j=13
   ·subst e;exact absurd hj hn13
   ·unfold aHv.val
    match j,e with
    |0,_=>rfl
    |1,_=>rfl
    |2,_=>rfl
    |3,_=>rfl
    |4,_=>rfl
    |5,_=>rfl
    |6,_=>rfl
    |7,_=>rfl
    |8,_=>rfl
    |9,_=>rfl
    |10,_=>rfl
    |11,_=>rfl
    |12,_=>rfl
    |13,e=>exact absurd rfl e
    |n+14,_=>rfl
  |14,_,hr =>
   have h13:=aG hr (d:=13) (by kernel_rfl);have hn14:¬ lP l 14:=lZ (mem_ready.1 hr).1;obtain⟨hγ,hz,_⟩:=H.g.2.2 h13;have v12:a.tmps[39]?=some (.agg C.zc):=H.dep hr 12 39 (by kernel_rfl) ⟨rfl,by decide⟩;have v13:a.tmps[7]?=some (.pointer (some ⟨γ,0,none⟩)):=H.dep hr 13 7 (by kernel_rfl) ⟨rfl,by decide⟩;have KZ:=hz hn14;have e21:(Tryz.prog.info? 30).map (·.size)=some C.zc.size:=by rw[M.zsz];exact eA
   exact aH0 (X:=.store 30 (.tmp 7) (.tmp 39)) (by kernel_rfl) (fun o h=>Bi h (oC v13) (oC v12) KZ e21 (by rw[M.zsz];rfl) M.zone) ⟨below_setRow hb hγ _,fun _=>fH h13,fun _=>⟨hγ,fun hn=>absurd (zE (by rw[H.sz,hsz];decide)) hn,fun _=>⟨by simpa[World.setRow] using KZ.1,setRow_heap _ _ _ _ _ _ KZ.2⟩⟩⟩
  |n+15,h,_=>exact absurd h (by omega)
end
end
section
open Go Go.RowKit Num
theorem aJb{x:aF}(h:x.ok)(n:Int):(aH6 x n).ok:=by
 have z:bZ.small ⟨[],[]⟩:=⟨by decide,by decide⟩
 refine⟨⟨by show 16≤1000;decide,h.small.ins,by show 0≤1000;decide,by show 0≤1000;decide,h.small.key,by show 0≤60;decide,by show 0≤60;decide,by show 0≤60;decide,z,z,z,by show 0≤1000;decide,fun p hp=>(by cases hp),by show 0≤1000;decide,fun o ho=>(by cases ho)⟩,Nl _⟩
theorem aJa{fs:List aE}{f:aE}{n:Int}{i:Nat}(hv:dF fs=0)(hx:dQ f=0)(hn:n<f.options.length)(hp:aIb fs (aIc f n) i)(hk:∀g,g∈fs→g.key≠zzz)(hw:dF (aH8 fs i (aIc f n))=0):aL (aH8 fs i (aIc f n)) f=0∧bC (aH8 fs i (aIc f n)) f=n :=
 have e:=vJ hw hx
 ⟨e,by rw[pK e,aIy hv hn hp hk]⟩
theorem aJm{f:aE}(h:dQ f=0):0<f.options.length:=by
 have:=mC Jq h;omega
theorem aJd{ch:Int}{L:Nat}(h0:0≤ch)(hL:0<L):0≤ch.tmod (L:Int)∧ch.tmod (L:Int)<L :=
 ⟨Int.tmod_nonneg _ h0,Int.tmod_lt_of_pos _ (by omega)⟩
theorem aI4(x:aF)(n:Int)(W:World):(Instr.build 30 #[(0,.string ⟨#[122,122,122,122,122,122,122,122,122,122,122,122,122,122,122,122]⟩),(3,.int .i64 x.f.day),(4,.int .i64 11),(5,.string ⟨x.f.ins.toArray⟩),(8,.string ⟨x.f.key.toArray⟩),(17,.int .i64 n)]).run Tryz.prog W=.ok (.agg (aH6 x n).arr) W:=by
 first|kernel_rfl|(simp[go_sem];rfl)
theorem aIh(xs:List aF)(x:aF)(ch:Int)(a:Option Addr)(c:Nat)(w:World)(hE:iE w)(hn:xs.length≤9223372036854775807)(hcap:xs.length≤c)(hr:fS w a xs)(hf:∀x,x∈xs→x.fits)(hb:x.f.Behind w x.pa x.oa)(hfx:x.fits)(h0:0≤ch)(h1:ch≤255):
  Calls Tryz.prog 8 #[.slice a xs.length c,.agg x.arr,.int .u8 ch] w fun e w'=>e=.returned (.bool true)∧Below w.heap.size w w':=by
 have KX:=Hd (aP.new0 w x.arr 30);have HB0:=Hd (aB w (.cells x.arr 30));have HRUN0:=tF x.arr rfl (w.alloc (.cells x.arr 30));rw[World.size_alloc] at HRUN0;have HRUN:=Hd HRUN0;have HBr:=aB (w.alloc (.cells x.arr 30)) (.cells x.arr 30);have KR:=aP.new0 (w.alloc (.cells x.arr 30)) x.arr 30;have HB1:=Hd (aA HB0.out HBr);have KX1:=Hd (KX.out.below HBr);rw[World.size_alloc] at KR;have HG0:=nJ xs [x] a (some ⟨w.heap.size+1,0,none⟩) c 1 ((w.alloc (.cells x.arr 30)).alloc (.cells x.arr 30)) hn (hr.below HB1.out) hf (by simp) (uV x KR (hb.below HB1.out)) (by intro y hy;rw[List.mem_singleton] at hy;subst hy;exact hfx);rw[show [x].length=1 from rfl] at HG0;have HG:=Hd HG0;have HAW:Hid (∀W,Below w.heap.size w W→Calls Tryz.prog 11 #[] W fun e w'=>e=.returned (.bool true)∧Below W.heap.size W w'):=fun W hb=>nR W (hE.below hb)
 have HE:=Hd hE;have HR:=Hd hr;have HF:=Hd hf;have HFX:=Hd hfx;have HBX:=Hd hb;have HCR:Hid (0≤ch∧ch<256):=⟨h0,by omega⟩
 have HSZ:Hid ((Tryz.prog.info? 30).map (·.size)=some x.arr.size):=aY x.f x.pa x.oa x.pc x.oc;have HX0:Hid (x.arr[0]?=some (.string ⟨x.f.key.toArray⟩)∧x.arr[3]?=some (.int .i64 x.f.day)∧x.arr[5]?=some (.string ⟨x.f.ins.toArray⟩)∧x.arr[19]?=some (.slice x.oa x.f.options.length x.oc)):=⟨rfl,rfl,rfl,rfl⟩
 obtain⟨fc,hfc⟩:∃fc,fc=x.arr:=⟨_,rfl⟩
 have HFC:=Hd hfc;rw[←hfc] at KX KX1 HB0 HB1 HG HSZ HRUN HX0 ⊢;clear hE hr hf hb hfx hfc HBr KR HRUN0 HG0 h0 h1;go_enter Tryz.func8,Tryz.ntmps8;go_wp2_with (first|(refine wpList_load_row rfl 30 _ rfl w.heap.size rfl 30 fc (0,0) _ KX.out.2 Tryz.underlying30 rfl HSZ.out ?_;simp only[pS])|(refine lA rfl 22 1 _ rfl #[(0,.agg fc)] _ (by simp[Act.eval]) HRUN.out ?_;simp only[pS]));refine HG.out.mono ?_;rintro e w2 ⟨⟨g,rfl,hg⟩,hb⟩;have KX2:=Hd (KX1.out.below hb);have HB2:=Hd (aA HB1.out hb);have HGS:=Hd hg;clear hb hg HG KX KX1 HRUN HB0 HB1;cases g with
 |true =>
  go_wp2_with fail;refine(HAW.out _ HB2.out).mono ?_;rintro e wz ⟨rfl,hb⟩;go_wp2;go_ret;exact⟨rfl,aA HB2.out hb⟩
 |false =>
  have HSM:=Hd (HGS.out rfl);have HTX:Hid x.f.tight:=(HGS.out rfl).2 x (by simp);clear HGS;have hlen:xs.length≤1003:=by rcases HSM.out.1.2 with h|h <;> omega
  have HV:Hid (gT w a c xs):=⟨HR.out,fun y hy=>⟨(HSM.out.1.1 y hy).small,(HF.out y hy).picks⟩,by omega⟩
  have HXO:Hid x.ok:=⟨HTX.out.small,HFX.out.picks⟩
  obtain⟨fs,hfs⟩:∃fs,fs=xs.map aF.f:=⟨_,rfl⟩
  have HXK:Hid (∀W,Below w.heap.size w W→Calls Tryz.prog 16 #[.agg fc] W fun e w'=>e=.returned (.int .i64 (dQ x.f))∧Below W.heap.size W w'):=fun W hb=>by
   rw[HFC.out];exact rZ x W (HE.out.below hb) HXO.out (HBX.out.below hb)
  have HRC:Hid (∀W,Below w.heap.size w W→Calls Tryz.prog 30 #[.slice a xs.length c] W fun e w'=>e=.returned (.int .i64 (dF fs))∧Below W.heap.size W w'):=fun W hb=>by
   rw[hfs];exact Fp xs a c W (by omega) hcap (HR.out.below hb) HSM.out.1.1
  have HCH:Hid (∀(zs:List aF) (a':Option Addr) (c':Nat) W,Below w.heap.size w W→gT W a' c' zs→Calls Tryz.prog 12 #[.slice a' zs.length c',.agg fc] W fun e w'=>e=.returned (.tuple #[.int .i64 (bC (zs.map aF.f) x.f),.int .i64 (aL (zs.map aF.f) x.f)])∧Below W.heap.size W w'):=fun zs a' c' W hb hv=>by
   rw[HFC.out];exact fE zs a' c' x W (HE.out.below hb) hv HXO.out (HBX.out.below hb)
  have HAF:Hid (dF fs=0→dQ x.f=0→∀n:Int,0≤n→n<x.f.options.length→∀W,Below w.heap.size w W→Calls Tryz.prog 31 #[.slice a xs.length c,.agg (aH6 x n).arr] W fun e w'=>(∃(zs:List aF) (a':Option Addr) (c':Nat),e=.returned (.tuple #[.slice a' zs.length c',.int .i64 0])∧gT w' a' c' zs∧aL (zs.map aF.f) x.f=0∧bC (zs.map aF.f) x.f=n)∧Below W.heap.size W w'):=fun h1 h2 n hn0 hn1 W hb=>by
   rw[hfs] at h1;have hl:xs.length<1000:=by
    have h:=(aHx h1).1;rw[List.length_map] at h;rcases HSM.out.1.2 with h'|h' <;> omega
   refine(aIs xs a c (aH6 x n) W (HE.out.below hb) (HV.out.below hb) h1 hl (aJb HXO.out n) ⟨.inl rfl,.inl rfl⟩ (aI2 h2 hn0) rfl).mono ?_;rintro e w' ⟨⟨i,zs,a',c',hp,hz,rfl,hv,hvc⟩,hb'⟩;have hz':zs.map aF.f=aH8 ((aH9 xs (aH6 x n)).map aF.f) i (aIc x.f n):=hz;rw[hz'] at hvc;obtain⟨e1,e2⟩:=aJa (aI0 h1) h2 hn1 hp (fun g hg=>aI9 hg) hvc;exact⟨⟨zs,a',c',rfl,hv,by rw[hz'];exact e1,by rw[hz'];exact e2⟩,hb'⟩
  have HPOS:Hid (dQ x.f=0→0<x.f.options.length):=aJm;have HOL:Hid (x.f.options.length≤1000000):=by have:=HXO.out.small.options;show _≤_;omega
  clear HR HF HFX HSM HV HXO HTX HE hfs HBX HFC hlen;obtain⟨xe,hxe⟩:∃xe,xe=dQ x.f:=⟨_,rfl⟩
  obtain⟨ve,hve⟩:∃ve,ve=dF fs:=⟨_,rfl⟩
  rw[←hxe] at HXK HAF HPOS;rw[←hve] at HRC HAF;clear hxe hve;go_wp2_with (refine gV (by rfl) 30 _ rfl w.heap.size rfl 30 fc (0,0) _ KX2.out.2 Tryz.underlying30 rfl HSZ.out ?_;simp only[pS]);refine(HXK.out _ HB2.out).mono ?_;rintro e w3 ⟨rfl,hb⟩;have HB3:=Hd (aA HB2.out hb);have KX3:=Hd (KX2.out.below hb);clear hb HB2 KX2 HXK
  by_cases h1:xe=0
  case neg =>
   have h1':(xe==0)=false:=by simpa using h1
   go_wp2_with fail;refine(HAW.out _ HB3.out).mono ?_;rintro e wz ⟨rfl,hb⟩;go_wp2;go_ret;exact⟨rfl,aA HB3.out hb⟩
  subst h1;go_wp2_with fail;refine(HRC.out _ HB3.out).mono ?_;rintro e w4 ⟨rfl,hb⟩;have HB4:=Hd (aA HB3.out hb);have KX4:=Hd (KX3.out.below hb);clear hb HB3 KX3 HRC
  by_cases h2:ve=0
  case neg =>
   have h2':(ve==0)=false:=by simpa using h2
   go_wp2_with fail;refine(HAW.out _ HB4.out).mono ?_;rintro e wz ⟨rfl,hb⟩;go_wp2;go_ret;exact⟨rfl,aA HB4.out hb⟩
  subst h2;have HP:=Hd (HPOS.out (by trivial));have HAF2:=Hd (HAF.out (by trivial) (by trivial));clear HPOS HAF;obtain⟨n,hn⟩:∃n,n=ch.tmod (x.f.options.length:Int):=⟨_,rfl⟩
  have HN:=Hd hn;have HNR:Hid (0≤n∧n<(x.f.options.length:Int)):=by rw[hn];exact aJd HCR.out.1 HP.out
  clear hn;have HAF3:=Hd (HAF2.out n HNR.out.1 HNR.out.2);have HSZZ:Hid ((Tryz.prog.info? 30).map (·.size)=some (aH6 x n).arr.size):=aY _ _ _ _ _;have HZ0:Hid ((aH6 x n).arr[0]?=some (.string ⟨zzz.toArray⟩)∧(aH6 x n).arr[20]?=some (.int .i64 n)):=⟨rfl,rfl⟩
  have HZS:Hid ((aH6 x n).arr.size=21):=rfl;have HZO:=Hd (dV (aH6 x n));have HBLD:=Hd (aI4 x n);obtain⟨zc,hzc⟩:∃zc,zc=(aH6 x n).arr:=⟨_,rfl⟩
  obtain⟨zk,hzk⟩:∃zk,zk=zzz:=⟨_,rfl⟩
  rw[←hzc] at HAF3 HSZZ HZ0 HZS HZO HBLD;rw[←hzk] at HZ0;clear hzc hzk HAF2;generalize x.f.key=key at *;generalize x.f.ins=ins at *;generalize x.f.day=day at *;generalize x.f.options.length=ol at *;go_wp2_with fail;refine aH5 (C:=⟨w4.drewN 1,w.heap.size,fc,zc,key,ins,day,ch,n,ol,x.oa,x.oc⟩) ?M rfl rfl rfl ?_
  case M=>exact⟨rfl,rfl,rfl,KX4.out,HX0.out.1,HX0.out.2.1,HX0.out.2.2.1,HX0.out.2.2.2,HP.out,HOL.out,HCR.out.1,HCR.out.2,HN.out.symm,HBLD.out,HZS.out,HZO.out⟩
  intro γ w5 hb hγ kz;have HB5:=Hd (aA (aD HB4.out 1) hb);have KX4':aP (w4.drewN 1) w.heap.size fc 30:=KX4.out;have KX5:=Hd (KX4'.below hb);have KZ5:=Hd kz;clear hb hγ kz HB4 KX4 KX4' HBLD HZO HZS HN HNR HP HOL HCR;have c0:=(KX5.out.cell 0).trans HX0.out.1;have z0:=(KZ5.out.cell 0).trans HZ0.out.1;simp only[iZ,aH4,List.foldl,List.setIfInBounds_toArray,List.set_cons_zero,List.set_cons_succ,aHv.val];cases hk:(key==zk) with
  |true =>
   go_wp2_with fail;refine(HAW.out _ HB5.out).mono ?_;rintro e wz ⟨rfl,hb⟩;go_wp2;go_ret;exact⟨rfl,aA HB5.out hb⟩
  |false =>
   go_wp2_with (refine wpList_load_row rfl 30 _ rfl γ rfl 30 zc (0,0) _ KZ5.out.2 Tryz.underlying30 rfl HSZZ.out ?_;simp only[pS]);refine(HAF3.out _ HB5.out).mono ?_;rintro e w6 ⟨⟨zs,a',c',rfl,hvz,e1,e2⟩,hb⟩;have HB6:=Hd (aA HB5.out hb);have KX6:=Hd (KX5.out.below hb);have KZ6:=Hd (KZ5.out.below hb);have HC9:Hid (Calls Tryz.prog 12 #[.slice a' zs.length c',.agg fc] w6 fun e w'=>e=.returned (.tuple #[.int .i64 n,.int .i64 0])∧Below w6.heap.size w6 w'):=by
    have h:=HCH.out zs a' c' w6 HB6.out hvz;rw[e2,e1] at h;exact h
   clear hb HB5 KX5 KZ5 HAF3 HCH hvz e1 e2 c0 z0 hk;go_wp2_with (refine wpList_load_row rfl 30 _ rfl w.heap.size rfl 30 fc (0,0) _ KX6.out.2 Tryz.underlying30 rfl HSZ.out ?_;simp only[pS]);refine HC9.out.mono ?_;rintro e w7 ⟨rfl,hb⟩;have HB7:=Hd (aA HB6.out hb);have KZ7:=Hd (KZ6.out.below hb);have z20:=(KZ7.out.cell 20).trans HZ0.out.2;clear hb HB6 KX6 KZ6 HC9;go_wp2_with fail;refine(HAW.out _ HB7.out).mono ?_;rintro e wz ⟨rfl,hb⟩;go_wp2;go_ret;exact⟨rfl,aA HB7.out hb⟩
end
end Go.Proofs.YtbcebibkpfklnaaGreatDoor
