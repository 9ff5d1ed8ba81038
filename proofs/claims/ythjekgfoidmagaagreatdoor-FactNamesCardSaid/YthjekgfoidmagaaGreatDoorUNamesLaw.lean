/- FactNamesLaw -/
import Derived.Test.YthjekgfoidmagaaGreatDoorULaw13
import Derived.Test.YthjekgfoidmagaaGreatDoorUInst
set_option maxHeartbeats 16000000
set_option maxRecDepth 100000
namespace Go.Proofs.YthjekgfoidmagaaGreatDoor
open Go.Proofs.Tryz
open Go Go.RowKit Num
theorem bSv(s:List UInt8)(W:World):(binOp .neq 9 (.string ⟨s.toArray⟩) (.string ⟨#[]⟩)).run prog W=.ok (.bool (!s.isEmpty)) W:=by cases s <;> simp[go_sem]
theorem bTp(s:List UInt8)(x y:Operand)(W:World):(eqGuard .neq 9 x y (.string ⟨s.toArray⟩) (.string ⟨#[]⟩)).run prog W=.ok () W:=by simp[go_sem,eqGuard]
theorem bUh{f:aE}{k:Nat}{s t:List UInt8}(h:(bPk f)[k]?=some s)(h':(bPk f)[k+1]?=some t):s<t:=by
 obtain⟨h1,e1⟩:=Li.1 h;obtain⟨h2,e2⟩:=Li.1 h';rw[<-e1,<-e2];exact List.pairwise_iff_getElem.1 (bUe f) k (k+1) h1 h2 (by omega)
theorem bTi{f:aE}{s:List UInt8}(h:s∈bDp f):(bPk f).contains s = !s.isEmpty:=by
 rw[Bool.eq_iff_iff,List.contains_iff_mem,bSn];cases s <;> simp[h]
theorem bTz{f:aE}(hs:f.small){s:List UInt8}(h:s∈bPk f):s.length<=1000:=by
 rcases bTy.1 (bSn.1 h).1 with rfl|⟨_,rfl⟩|⟨o,ho,rfl⟩
 ·exact hs.ins
 ·exact hs.other
 ·exact(hs.option o ho).1
theorem bT9{f:aE}(h:bY f=0){s:List UInt8}(hs:s∈bPk f):dC s=true:=by
 cases hc:f.cancelled with
 |true=>rw[bTu h hc] at hs;cases hs
 |false=>exact bTj h hc s hs
theorem bUq(f:aE):(bDp f).length<=f.options.length+2:=by
 unfold bDp;split <;> simp <;> omega
theorem bT0(f:aE):(bPk f).length<=f.options.length+2:=by
 have h:(bPk f).length<=(bDp f).length:=by
  unfold bPk;refine Nat.le_trans (Go.Lib.compact_length_le _) ?_;rw[List.length_mergeSort];exact List.length_filter_le _ _
 exact Nat.le_trans h (bUq f)
noncomputable def bUv:Array Oper:=(Tryz.f9.body.bind (jE 11)).getD #[]
def bUo:List (Nat×Nat):=[(0,49),(1,50),(2,51),(3,52),(4,53),(5,54),(6,55),(7,56)]
structure bUl where
 W0:World
 b:Nat
 cs:Array Value
 a:Option Addr
 n:Nat
 c:Nat
 s:List UInt8
 cb:Bool
def bUl.val(C:bUl)(_:Unit):Nat->Value
 |0=>.slice C.a C.n C.c
 |1=>.pointer (some ⟨C.b,5,none⟩)
 |2=>.string ⟨C.s.toArray⟩
 |3=>.bool C.cb
 |4=>.pointer (some ⟨C.b,5,none⟩)
 |5=>.string ⟨C.s.toArray⟩
 |6=>.bool C.cb
 |_=>.bool false
def bUl.gg(C:bUl)(_:Unit)(_:Array Bool)(W:World):Prop:=Below C.W0.heap.size C.W0 W
structure bVa(C:bUl)(t0:Array Value):Prop where
 sz:t0.size=88
 t3:t0[3]?=some (.slice C.a C.n C.c)
 tb:t0[1]?=some (.pointer (some ⟨C.b,0,none⟩))
 k:aP C.W0 C.b C.cs 29
 e:C.cs[5]?=some (.string ⟨C.s.toArray⟩)
 h:∀W,Below C.W0.heap.size C.W0 W->Calls prog 30 #[.slice C.a C.n C.c,.string ⟨C.s.toArray⟩] W fun e w'=>e=.returned (.bool C.cb)/\Below W.heap.size W w'
 grd:∀W,(eqGuard .neq 9 (.tmp 54) (.const (.string ⟨#[]⟩)) (.string ⟨C.s.toArray⟩) (.string ⟨#[]⟩)).run prog W=.ok () W
 neq:∀W,(binOp .neq 9 (.string ⟨C.s.toArray⟩) (.string ⟨#[]⟩)).run prog W=.ok (.bool C.cb) W
section
variable {C:bUl}{t0:Array Value}{Q:Exit->Act->World->Prop}
theorem bUg(M:bVa C t0){a:Act}{w:World}(hdf:a.defers=[])(ht:a.tmps=t0)(hw:w.drewN 1=C.W0)
  (hQ:∀W,Below C.W0.heap.size C.W0 W->Q .normal { tmps:=iZ (C.val ()) bUo t0,defers:=[] } W):(Code.region 11 bUv true).wp prog Q a w:=by
 have hsz:bUv.size=8:=by kernel_rfl
 refine eV (ds:=bUo) (val:=C.val) (G:=C.gg) (by kernel_rfl) (by kernel_rfl) (by decide) (fun p hp=>?_) (by kernel_rfl) ?_ (γ:=()) hdf ht (by rw[hw];exact Br _ _) (fun _ _ W _ hg=>hQ W hg)
 ·rw[M.sz];have:∀p,p∈bUo->p.2<88:=by decide
  exact this p hp
 ·intro γ l a w i H hr;cases γ;have hi:i<8:=by
   obtain⟨_,o,ho,_⟩:=mem_ready.1 hr;have:=(Ai.1 ho).1;rw[hsz] at this;exact this
  have t3:=H.low (s:=3) (by decide) M.t3;have tb:=H.low (s:=1) (by decide) M.tb;have hb:Below C.W0.heap.size C.W0 w:=H.g
  match i,hi,hr with
  |0,_,hr =>
   exact aWj (.move (.tmp 3)) (.slice C.a C.n C.c) (fun o h=>by simp[execOp,h,t3,go_sem]) hb
  |1,_,hr =>
   exact aWj (.fieldAddr 29 (.tmp 1) 5) (.pointer (some ⟨C.b,5,none⟩)) (fun o h=>by simp[execOp,h,tb,go_sem]) hb
  |2,_,hr =>
   have v1:a.tmps[50]?=some (.pointer (some ⟨C.b,5,none⟩)):=H.dep hr 1 50;have hc:=(M.k.below hb).cell 5;rw[M.e] at hc;exact aWj (.load 9 (.tmp 50)) (.string ⟨C.s.toArray⟩) (fun o h=>by simp[execOp,h,v1,hc,go_sem]) hb
  |3,_,hr =>
   have v0:a.tmps[49]?=some (.slice C.a C.n C.c):=H.dep hr 0 49;have v2:a.tmps[51]?=some (.string ⟨C.s.toArray⟩):=H.dep hr 2 51;refine gA (f:=30) (lb:=#[]) (c:=.func 30) (args:=#[.tmp 49,.tmp 51]) (ts:=#[36,9]) (vs:=#[.slice C.a C.n C.c,.string ⟨C.s.toArray⟩]) (by kernel_rfl) rfl (aXb func30) (by simp[Act.eval,v0,v2]) ((M.h w hb).mono ?_);rintro e w' ⟨rfl,hb'⟩;exact⟨_,(),rfl,rfl,fun _ _=>rfl,aA hb hb'⟩
  |4,_,hr =>
   exact aWj (.fieldAddr 29 (.tmp 1) 5) (.pointer (some ⟨C.b,5,none⟩)) (fun o h=>by simp[execOp,h,tb,go_sem]) hb
  |5,_,hr =>
   have v4:a.tmps[53]?=some (.pointer (some ⟨C.b,5,none⟩)):=H.dep hr 4 53;have hc:=(M.k.below hb).cell 5;rw[M.e] at hc;exact aWj (.load 9 (.tmp 53)) (.string ⟨C.s.toArray⟩) (fun o h=>by simp[execOp,h,v4,hc,go_sem]) hb
  |6,_,hr =>
   have v5:a.tmps[54]?=some (.string ⟨C.s.toArray⟩):=H.dep hr 5 54;exact aWj (.binOp .neq 9 (.tmp 54) (.const (.string ⟨#[]⟩)) 9) (.bool C.cb) (fun o h=>by exact bJz h (ev' v5) rfl (M.grd w) (M.neq w)) hb
  |7,_,hr =>
   have v3:a.tmps[52]?=some (.bool C.cb):=H.dep hr 3 52;have v6:a.tmps[55]?=some (.bool C.cb):=H.dep hr 6 55;exact aWj (.binOp .neq 4 (.tmp 52) (.tmp 55) 4) (.bool false) (fun o h=>by simp[execOp,h,v3,v6,go_sem]) hb
  |n+8,h,_=>exact absurd h (by omega)
end
noncomputable def bUu:Array Oper:=(Tryz.f9.body.bind (jE 16)).getD #[]
def bUn:List (Nat×Nat):=[(0,64),(1,65),(2,66),(3,67),(4,68),(5,69),(6,70),(7,71)]
structure bUk where
 W0:World
 b:Nat
 cs:Array Value
 a:Option Addr
 n:Nat
 c:Nat
 s:List UInt8
 cb:Bool
def bUk.val(C:bUk)(_:Unit):Nat->Value
 |0=>.slice C.a C.n C.c
 |1=>.pointer (some ⟨C.b,0,none⟩)
 |2=>.string ⟨C.s.toArray⟩
 |3=>.bool C.cb
 |4=>.pointer (some ⟨C.b,0,none⟩)
 |5=>.string ⟨C.s.toArray⟩
 |6=>.bool C.cb
 |_=>.bool false
def bUk.gg(C:bUk)(_:Unit)(_:Array Bool)(W:World):Prop:=Below C.W0.heap.size C.W0 W
structure bU9(C:bUk)(t0:Array Value):Prop where
 sz:t0.size=88
 t3:t0[3]?=some (.slice C.a C.n C.c)
 tb:t0[8]?=some (.pointer (some ⟨C.b,0,none⟩))
 k:aP C.W0 C.b C.cs 55
 e:C.cs[0]?=some (.string ⟨C.s.toArray⟩)
 h:∀W,Below C.W0.heap.size C.W0 W->Calls prog 30 #[.slice C.a C.n C.c,.string ⟨C.s.toArray⟩] W fun e w'=>e=.returned (.bool C.cb)/\Below W.heap.size W w'
 grd:∀W,(eqGuard .neq 9 (.tmp 69) (.const (.string ⟨#[]⟩)) (.string ⟨C.s.toArray⟩) (.string ⟨#[]⟩)).run prog W=.ok () W
 neq:∀W,(binOp .neq 9 (.string ⟨C.s.toArray⟩) (.string ⟨#[]⟩)).run prog W=.ok (.bool C.cb) W
section
variable {C:bUk}{t0:Array Value}{Q:Exit->Act->World->Prop}
theorem bUf(M:bU9 C t0){a:Act}{w:World}(hdf:a.defers=[])(ht:a.tmps=t0)(hw:w.drewN 1=C.W0)
  (hQ:∀W,Below C.W0.heap.size C.W0 W->Q .normal { tmps:=iZ (C.val ()) bUn t0,defers:=[] } W):(Code.region 16 bUu true).wp prog Q a w:=by
 have hsz:bUu.size=8:=by kernel_rfl
 refine eV (ds:=bUn) (val:=C.val) (G:=C.gg) (by kernel_rfl) (by kernel_rfl) (by decide) (fun p hp=>?_) (by kernel_rfl) ?_ (γ:=()) hdf ht (by rw[hw];exact Br _ _) (fun _ _ W _ hg=>hQ W hg)
 ·rw[M.sz];have:∀p,p∈bUn->p.2<88:=by decide
  exact this p hp
 ·intro γ l a w i H hr;cases γ;have hi:i<8:=by
   obtain⟨_,o,ho,_⟩:=mem_ready.1 hr;have:=(Ai.1 ho).1;rw[hsz] at this;exact this
  have t3:=H.low (s:=3) (by decide) M.t3;have tb:=H.low (s:=8) (by decide) M.tb;have hb:Below C.W0.heap.size C.W0 w:=H.g
  match i,hi,hr with
  |0,_,hr =>
   exact aWj (.move (.tmp 3)) (.slice C.a C.n C.c) (fun o h=>by simp[execOp,h,t3,go_sem]) hb
  |1,_,hr =>
   exact aWj (.fieldAddr 55 (.tmp 8) 0) (.pointer (some ⟨C.b,0,none⟩)) (fun o h=>by simp[execOp,h,tb,go_sem]) hb
  |2,_,hr =>
   have v1:a.tmps[65]?=some (.pointer (some ⟨C.b,0,none⟩)):=H.dep hr 1 65;have hc:=(M.k.below hb).cell 0;rw[M.e] at hc;exact aWj (.load 9 (.tmp 65)) (.string ⟨C.s.toArray⟩) (fun o h=>by simp[execOp,h,v1,hc,go_sem]) hb
  |3,_,hr =>
   have v0:a.tmps[64]?=some (.slice C.a C.n C.c):=H.dep hr 0 64;have v2:a.tmps[66]?=some (.string ⟨C.s.toArray⟩):=H.dep hr 2 66;refine gA (f:=30) (lb:=#[]) (c:=.func 30) (args:=#[.tmp 64,.tmp 66]) (ts:=#[36,9]) (vs:=#[.slice C.a C.n C.c,.string ⟨C.s.toArray⟩]) (by kernel_rfl) rfl (aXb func30) (by simp[Act.eval,v0,v2]) ((M.h w hb).mono ?_);rintro e w' ⟨rfl,hb'⟩;exact⟨_,(),rfl,rfl,fun _ _=>rfl,aA hb hb'⟩
  |4,_,hr =>
   exact aWj (.fieldAddr 55 (.tmp 8) 0) (.pointer (some ⟨C.b,0,none⟩)) (fun o h=>by simp[execOp,h,tb,go_sem]) hb
  |5,_,hr =>
   have v4:a.tmps[68]?=some (.pointer (some ⟨C.b,0,none⟩)):=H.dep hr 4 68;have hc:=(M.k.below hb).cell 0;rw[M.e] at hc;exact aWj (.load 9 (.tmp 68)) (.string ⟨C.s.toArray⟩) (fun o h=>by simp[execOp,h,v4,hc,go_sem]) hb
  |6,_,hr =>
   have v5:a.tmps[69]?=some (.string ⟨C.s.toArray⟩):=H.dep hr 5 69;exact aWj (.binOp .neq 9 (.tmp 69) (.const (.string ⟨#[]⟩)) 9) (.bool C.cb) (fun o h=>by exact bJz h (ev' v5) rfl (M.grd w) (M.neq w)) hb
  |7,_,hr =>
   have v3:a.tmps[67]?=some (.bool C.cb):=H.dep hr 3 67;have v6:a.tmps[70]?=some (.bool C.cb):=H.dep hr 6 70;exact aWj (.binOp .neq 4 (.tmp 67) (.tmp 70) 4) (.bool false) (fun o h=>by simp[execOp,h,v3,v6,go_sem]) hb
  |n+8,h,_=>exact absurd h (by omega)
end
theorem bSt(x:aF)(w:World)(hE:iE w)(hbx:x.f.Behind w x.pa x.oa)(hfx:x.fits):
  Calls prog 9 #[.agg x.arr] w fun e w'=>e=.returned (.bool true)/\Below w.heap.size w w':=by
 obtain⟨wA,hwA⟩:∃wA,wA=w.alloc (.cells x.arr 29):=⟨_,rfl⟩
 have bA:Below w.heap.size w wA:=by rw[hwA];exact aB _ _
 have K0:Hid (aP wA w.heap.size x.arr 29):=by show aP _ _ _ _;rw[hwA];exact aP.new0 _ _ _
 have HB:=Hd bA;have HG:=Hd (bTl x wA (hbx.below bA) hfx);have HRUN:=Hd (bTt x wA);have HAW:Hid (∀W,Below w.heap.size w W->Calls prog 11 #[] W fun e w'=>e=.returned (.bool true)/\Below W.heap.size W w'):=fun W hb=>bLi W (hE.below hb)
 have HIN:Hid (x.f.tight->∀W,Below w.heap.size w W->Calls prog 17 #[.agg x.arr] W fun e w'=>(∃a c,e=.returned (.slice a (bPk x.f).length c)/\dT w' a (iS (bPk x.f)))/\Below W.heap.size W w'):=fun ht W hb=>by
  refine(bOo x.f x.pa x.oa x.pc x.oc W (hbx.below hb) ht.small.options).mono ?_;rintro e w' ⟨v,rfl,ho,hb2⟩;have hlen:(iS (bPk x.f)).length=(bPk x.f).length:=by unfold iS;rw[List.length_map]
  rw[<-hlen] at ho;obtain⟨a,c,rfl,_,hr⟩:=bNo ho;rw[hlen];exact⟨⟨a,c,rfl,hr⟩,hb2⟩
 have HCK:Hid (x.f.tight->∀W,Below w.heap.size w W->Calls prog 12 #[.agg x.arr] W fun e w'=>e=.returned (.int .i64 (bY x.f))/\Below W.heap.size W w'):=fun ht W hb=>rT x.f x.pa x.oa x.pc x.oc W (hE.below hb) ht.small hfx.picks (hbx.below hb)
 have HSX:Hid ((prog.info? 29).map (·.size)=some x.arr.size):=aY x.f x.pa x.oa x.pc x.oc;have HX:Hid (x.arr[5]?=some (.string ⟨x.f.ins.toArray⟩)/\x.arr[2]?=some (.bool x.f.cancelled)/\x.arr[19]?=some (.slice x.oa x.f.options.length x.oc)):=⟨rfl,rfl,rfl⟩
 have HBO:=Hd hbx.2;have HP:Hid (x.f.tight->(bPk x.f).length<=1002/\x.f.options.length<=1000/\∀s,s∈bPk x.f->s.length<=1000):=fun ht=>⟨by have:=bT0 x.f;have:=ht.small.options;omega,ht.small.options,fun s hs=>bTz ht.small hs⟩
 have HQ:Hid ((∀k s,(bPk x.f)[k]?=some s->s ≠ [])/\(∀k s t,(bPk x.f)[k]?=some s->(bPk x.f)[k+1]?=some t->s<t)/\((bY x.f==0)=true->∀k s,(bPk x.f)[k]?=some s->dC s=true)/\(bPk x.f).contains x.f.ins = !x.f.ins.isEmpty/\(∀o,o∈x.f.options->(bPk x.f).contains o.other = !o.other.isEmpty)/\(x.f.cancelled=true->(bY x.f==0)=true->(bPk x.f).length=0)) :=
  ⟨fun k s h=>(bSn.1 (List.mem_of_getElem? h)).2,fun k s t h h'=>bUh h h',fun h k s hs=>bT9 (by simpa using h) (List.mem_of_getElem? hs),bTi (bTy.2 (.inl rfl)),fun o ho=>bTi (bTy.2 (.inr (.inr ⟨o,ho,rfl⟩))),fun hc h=>by rw[bTu (by simpa using h) hc];rfl⟩
 clear hE hbx hfx bA;obtain⟨pt,hpt⟩:∃pt,pt=x.f.tight:=⟨_,rfl⟩
 rw[<-hpt] at HG HIN HCK HP;clear hpt;generalize x.arr=xc at *;generalize bPk x.f=ns at *;obtain⟨f,pa,pc,oa,oc⟩:=x;dsimp only at *;go_enter func9,ntmps9;have A1:Hid (w.alloc (.cells xc 29)=wA):=hwA.symm;clear hwA;go_wp2_with (first
  |(rw[A1.out];refine wpList_load_row rfl 29 _ rfl w.heap.size rfl 29 xc (0,0) _ K0.out.2 underlying29 rfl HSX.out ?_)
  |(refine bN8 rfl 47 1 _ rfl #[(0,.agg xc)] _ (by first|rfl|kernel_rfl) HRUN.out ?_))
 refine HG.out.mono ?_;rintro e w1 ⟨⟨g,rfl,hg⟩,hb⟩;have HB1:=Hd (HB.out.trans (hb.mono HB.out.size));have K0b:=Hd (K0.out.below hb);clear hb K0 HB HRUN HG A1;cases g with
 |true =>
  clear HIN HCK HP HQ;go_wp2_with fail;refine(HAW.out _ HB1.out).mono ?_;rintro e w2 ⟨rfl,hb⟩;go_wp2;go_ret;exact⟨rfl,aA HB1.out hb⟩
 |false =>
  have HIN2:=Hd (HIN.out (hg rfl));have HCK2:=Hd (HCK.out (hg rfl));have HP2:=Hd (HP.out (hg rfl));clear HIN HCK HP hg;go_wp2_with (refine wpList_load_row rfl 29 _ rfl w.heap.size rfl 29 xc (0,0) _ K0b.out.2 underlying29 rfl HSX.out ?_);refine(HIN2.out _ HB1.out).mono ?_;rintro e w2 ⟨⟨a,c,rfl,hr⟩,hb⟩;have HB2:=Hd (HB1.out.trans (hb.mono HB1.out.size));have K0c:=Hd (K0b.out.below hb);have HR2:=Hd hr;clear hb hr K0b HB1 HIN2;go_wp2_with (refine wpList_load_row rfl 29 _ rfl w.heap.size rfl 29 xc (0,0) _ K0c.out.2 underlying29 rfl HSX.out ?_);refine(HCK2.out _ HB2.out).mono ?_;rintro e w3 ⟨rfl,hb⟩;have HB3:=Hd (HB2.out.trans (hb.mono HB2.out.size));have K0d:=Hd (K0c.out.below hb);have HR3:=Hd (HR2.out.below hb);clear hb K0c HB2 HR2 HCK2;have HNM:Hid (∀s:List UInt8,s∈ns->∀W,Calls prog 29 #[.string ⟨s.toArray⟩] W fun e w'=>e=.returned (.bool (dC s))/\Below W.heap.size W w'):=fun s hs W=>qW s W (by have:=HP2.out.2.2 s hs;omega)
  go_wp2_with fail;generalize(bY f==0)=vb at *;go_loopw [20] (fun iv wr=>∃k:Nat,k<=ns.length/\iv=.int .i64 (k:Int)/\Hid (Below w3.heap.size w3 wr)) (fun iv _=>ns.length-(intOf iv).toNat)
  case atStart=>exact⟨0,Nat.zero_le _,rfl,Br _ _⟩
  case round =>
   obtain⟨k,hk,rfl,HBr⟩:=hrel
   by_cases hlt:k<ns.length
   ·obtain⟨s,hs⟩:∃s,ns[k]?=some s:=⟨_,Lg hlt⟩
    have hss:(iS ns)[k]?=some (.string ⟨s.toArray⟩):=by unfold iS;rw[List.getElem?_map,hs];rfl
    obtain⟨b,off,rfl,hbl,hc⟩:=(HR3.out.below HBr.out).addr (fun e=>by rw[e] at hss;simp at hss);have c1:wr.cell? ⟨b,off+k,none⟩=some (.string ⟨s.toArray⟩):=hc k _ hss;have HNS:=Hd (HNM.out s (List.mem_of_getElem? hs));have HNE:Hid (s ≠ []):=HQ.out.1 k s hs;have HVN:Hid (vb=true->dC s=true):=fun h=>HQ.out.2.2.1 h k s hs
    have HC:=Hd hc;have HLS:Hid (∀m t,k=m+1->ns[m]?=some t->t<s):=fun m t e ht=>HQ.out.2.1 m t s ht (by rw[<-e];exact hs)
    clear hc hss hs;have e1:(s == [])=false:=by
     cases s with
     |nil=>exact absurd rfl HNE.out
     |cons=>rfl
    cases k with
    |zero =>
     rw[Nat.add_zero] at c1;cases vb with
     |false =>
      go_wp2_with fail;go_roundw
      case rel=>exact⟨1,by omega,by go_num,HBr⟩
      case measure=>simp[intOf];omega
     |true =>
      have HI:=HVN.out rfl;rw[HI] at HNS;go_wp2_with fail;refine(HNS.out _).mono ?_;rintro e w4 ⟨rfl,hb⟩;have HB4:=Hd (aA HBr.out hb);clear hb HBr HNS HI;go_wp2_with fail;go_roundw
      case rel=>exact⟨1,by omega,by go_num,HB4⟩
      case measure=>simp[intOf];omega
    |succ m =>
     obtain⟨t,ht⟩:∃t,ns[m]?=some t:=⟨_,Lg (by omega)⟩
     have c0:wr.cell? ⟨b,off+m,none⟩=some (.string ⟨t.toArray⟩):=HC.out m _ (by unfold iS;rw[List.getElem?_map,ht];rfl);have hts:=HLS.out m t rfl ht;have e2:Op.bytesLess s t=false:=by rw[bytesLess_eq];exact decide_eq_false (fun h=>List.lt_asymm h hts)
     have e3:(s==t)=false:=by
      cases e:s==t with
      |false=>rfl
      |true =>
       obtain rfl:=eq_of_beq e;exact absurd hts (List.lt_irrefl _)
     clear ht hts HLS;have hp1:=HP2.out.1;have hwm:wrap64 (m:Int)=m:=by unfold wrap64;omega
     cases vb with
     |false =>
      go_wp2_with fail;go_roundw
      case rel=>exact⟨m+1+1,by omega,by go_num,HBr⟩
      case measure=>simp[intOf];omega
     |true =>
      have HI:=HVN.out rfl;rw[HI] at HNS;go_wp2_with fail;refine(HNS.out _).mono ?_;rintro e w4 ⟨rfl,hb⟩;have HB4:=Hd (aA HBr.out hb);clear hb HBr HNS HI;go_wp2_with fail;go_roundw
      case rel=>exact⟨m+1+1,by omega,by go_num,HB4⟩
      case measure=>simp[intOf];omega
   ·obtain rfl:k=ns.length:=by omega
    clear HNM;have HRn:=Hd (HR3.out.below HBr.out);have HBn:=Hd (HB3.out.trans (HBr.out.mono HB3.out.size));have KXn:=Hd (K0d.out.below HBr.out);clear HBr HR3 HB3 K0d;go_wp2_with fail;refine bUg (C:=⟨wr.drewN 1,w.heap.size,xc,a,ns.length,c,f.ins,!f.ins.isEmpty⟩) ⟨rfl,rfl,rfl,KXn.out.below (aD (Br _ _) 1),HX.out.1,fun W hW=>?_,fun W=>bTp _ _ _ W,fun W=>bSv _ W⟩ rfl rfl rfl ?_
    ·have hc:=aFh ns a c f.ins W (by have:=HP2.out.1;omega) (HRn.out.below ((aD (Br _ _) 1).trans hW));rw[HQ.out.2.2.2.1] at hc;refine hc.mono ?_;rintro e w' ⟨rfl,rfl⟩;exact⟨rfl,Br _ _⟩
    intro w5 hb5;have hb5:Below wr.heap.size wr w5:=(aD (Br _ _) 1).trans hb5;have HB5:=Hd (HBn.out.trans (hb5.mono HBn.out.size));have K05:=Hd (KXn.out.below hb5);have HR5:=Hd (HRn.out.below hb5);have c19:=(K05.out.cell 19).trans HX.out.2.2;clear hb5 HBn KXn HRn;simp only[iZ,bUo,List.foldl,bUl.val,List.setIfInBounds_toArray,List.set_cons_zero,List.set_cons_succ];go_wp2_with fail;clear c19;go_loopw [60] (fun iv wr=>∃k:Nat,k<=f.options.length/\iv=.int .i64 (k:Int)/\Hid (Below w5.heap.size w5 wr)) (fun iv _=>f.options.length-(intOf iv).toNat)
    case atStart=>exact⟨0,Nat.zero_le _,rfl,Br _ _⟩
    case round =>
     obtain⟨k,hk,rfl,HBr⟩:=hrel
     by_cases hlt:k<f.options.length
     ·obtain⟨o,ho⟩:∃o,f.options[k]?=some o:=⟨_,Lg hlt⟩
      obtain⟨b,off,rfl,hbl,hc⟩:=HBO.out.addr (k:=k) (cs:=o.cells) (by rw[List.getElem?_map,ho];rfl);have HBW:Hid (Below w.heap.size w wr):=HB5.out.trans (HBr.out.mono HB5.out.size);have HC:Hid (∀i v,o.cells.toArray.toList[i]?=some v->wr.cell? ⟨b,off+k*7+i,none⟩=some v):=fun i v hv=>(HBW.out.cell (p:=⟨b,off+k*7+i,none⟩) hbl).trans (hc i v hv)
      have HSO:Hid ((prog.info? 55).map (·.size)=some o.cells.toArray.size):=by
       have h:(prog.info? 55).map (·.size)=some 7:=by kernel_rfl
       exact h
      have HO7:Hid ((#[.string ⟨#[]⟩,.string ⟨#[]⟩,.string ⟨#[]⟩,.string ⟨#[]⟩,.string ⟨#[]⟩,.string ⟨#[]⟩,.string ⟨#[]⟩]:Array Value).size=o.cells.toArray.size):=rfl;have HONE:Hid (o.cells.toArray.all (·.oneCell')=true):=by show _=_;unfold eJ.cells;simp[Value.oneCell']
      have HZO:Hid (aP (wr.alloc (.cells #[.string ⟨#[]⟩,.string ⟨#[]⟩,.string ⟨#[]⟩,.string ⟨#[]⟩,.string ⟨#[]⟩,.string ⟨#[]⟩,.string ⟨#[]⟩] 55)) wr.heap.size #[.string ⟨#[]⟩,.string ⟨#[]⟩,.string ⟨#[]⟩,.string ⟨#[]⟩,.string ⟨#[]⟩,.string ⟨#[]⟩,.string ⟨#[]⟩] 55):=aP.new0 _ _ _;have BZO:Hid (Below wr.heap.size wr (wr.alloc (.cells #[.string ⟨#[]⟩,.string ⟨#[]⟩,.string ⟨#[]⟩,.string ⟨#[]⟩,.string ⟨#[]⟩,.string ⟨#[]⟩,.string ⟨#[]⟩] 55))):=aB _ _;have HST:Hid (o.cells.toArray[0]?=some (.string ⟨o.other.toArray⟩)):=rfl;have HCT:Hid (ns.contains o.other = !o.other.isEmpty):=HQ.out.2.2.2.2.1 o (List.mem_of_getElem? ho);clear hc ho;generalize o.cells.toArray=oc7 at *;generalize o.other=ot at *;go_wp2_with (first|(refine aM rfl 55 _ rfl b (off+k*7) rfl oc7 _ HC.out underlying55 rfl HSO.out ?_)|(refine bC5 rfl 55 _ _ rfl wr.heap.size oc7 rfl rfl HZO.out HSO.out HO7.out HONE.out ?_;intro w6 kx bx gr;have K6:=Hd kx;have B6:=Hd (BZO.out.trans (bx _ (Nl _)));clear kx bx gr));have HR6:=Hd ((HR5.out.below HBr.out).below B6.out);refine bUf (C:=⟨w6.drewN 1,wr.heap.size,oc7,a,ns.length,c,ot,!ot.isEmpty⟩) ⟨rfl,rfl,rfl,K6.out.below (aD (Br _ _) 1),HST.out,fun W hW=>?_,fun W=>bTp _ _ _ W,fun W=>bSv _ W⟩ rfl rfl rfl ?_
      ·have hc:=aFh ns a c ot W (by have:=HP2.out.1;omega) (HR6.out.below ((aD (Br _ _) 1).trans hW));rw[HCT.out] at hc;refine hc.mono ?_;rintro e w' ⟨rfl,rfl⟩;exact⟨rfl,Br _ _⟩
      intro w7 hb7;have hb7:Below w6.heap.size w6 w7:=(aD (Br _ _) 1).trans hb7;have HB7:Hid (Below w5.heap.size w5 w7):=by
       have h1:=aA HBr.out B6.out;exact h1.trans (hb7.mono h1.size)
      clear hb7 HR6 HC HSO HO7 HONE HZO BZO HST HCT K6 B6 HBr HBW;simp only[iZ,bUn,List.foldl,bUk.val,Act.put,List.setIfInBounds_toArray,List.set_cons_zero,List.set_cons_succ];have hol:=HP2.out.2.1;go_wp2_with fail;go_roundw
      case rel=>exact⟨k+1,by omega,by go_num,HB7⟩
      case measure=>simp[intOf];omega
     ·obtain rfl:k=f.options.length:=by omega
      have HB8:=Hd (HB5.out.trans (HBr.out.mono HB5.out.size));have c2:=((K05.out.below HBr.out).cell 2).trans HX.out.2.1;clear HBr HB5 K05 HR5;have HL:=HQ.out.2.2.2.2.2;clear HQ;cases hcc:f.cancelled with
      |false =>
       rw[hcc] at c2;clear HL;go_wp2_with fail;refine(HAW.out _ HB8.out).mono ?_;rintro e w9 ⟨rfl,hb⟩;go_wp2;go_ret;exact⟨rfl,aA HB8.out hb⟩
      |true =>
       rw[hcc] at c2;cases vb with
       |false =>
        clear HL;go_wp2_with fail;refine(HAW.out _ HB8.out).mono ?_;rintro e w9 ⟨rfl,hb⟩;go_wp2;go_ret;exact⟨rfl,aA HB8.out hb⟩
       |true =>
        have hl0:=HL hcc rfl;have hl1:((ns.length:Int)==0)=true:=by rw[hl0];rfl
        have hl2:(ns.length==0)=true:=by rw[hl0];rfl
        clear HL;go_wp2_with fail;refine(HAW.out _ HB8.out).mono ?_;rintro e w9 ⟨rfl,hb⟩;go_wp2;go_ret;exact⟨rfl,aA HB8.out hb⟩
end Go.Proofs.YthjekgfoidmagaaGreatDoor
