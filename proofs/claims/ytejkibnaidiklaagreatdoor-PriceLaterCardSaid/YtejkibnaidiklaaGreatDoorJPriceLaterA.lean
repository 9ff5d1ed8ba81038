/- PriceLaterLaw -/
import Derived.Test.YtejkibnaidiklaaGreatDoorJMem
import Derived.Test.YtejkibnaidiklaaGreatDoorJAfterB
import Derived.Test.YtejkibnaidiklaaGreatDoorJFindA
import Derived.Test.YtejkibnaidiklaaGreatDoorJElectionA
import Derived.Test.YtejkibnaidiklaaGreatDoorJPriceC
import Derived.Test.YtejkibnaidiklaaGreatDoorJPriceA
set_option maxHeartbeats 16000000
set_option maxRecDepth 100000
namespace Go.Proofs.YtejkibnaidiklaaGreatDoor
open Go Go.RowKit Num
theorem aRd{P:Program}{ops:Array Oper}{rest:List Oper}{o:Oper}{a:Act}{w w':World}{Q:Exit→Act→World→Prop}(hw:Region.wanted o (yielded ops a.tmps)=true)(t:TypeId)(n:Nat)(ps:Array (Nat×Operand))(ho:o.op=.buildSlice t n ps)(qs:Array (Nat×Value))(v:Value)
  (hps:(ps.map fun (i,x)=>(i,a.eval x))=qs) (hrun:(Instr.buildSlice t n qs).run P w=.ok v w') (h:wpList P ops Q rest (a.put o.dst v) w'):wpList P ops Q (o::rest) a w:=by
 refine wpList_step fun K hK=>?_
 rw[if_pos hw];refine Dp ho (v:=v) (w':=w') ?_ (hK _ _ h);rw[hps];exact hrun
theorem aRp(xs:List aF)(a:Option Addr)(c:Nat)(y:aF)(w:World)(hE:iE w)(hv:gT w a c xs)(hvc:dF (xs.map aF.f)=0)(hy:y.ok)(hb:y.f.Behind w y.pa y.oa)(hfc:¬ bY y.f=0):
  Calls Tryz.prog 45 #[.slice a xs.length c,.agg y.arr] w fun e w'=>e=.returned (.tuple #[.slice none 0 0,.int .i64 (bY y.f)])∧Below w.heap.size w w':=by
 obtain⟨w0,hw0⟩:∃w0,w0=w.alloc (.cells y.arr 59):=⟨_,rfl⟩
 have HA:Hid (Below w.heap.size w w0):=by show Below _ _ _;rw[hw0];exact aB _ _
 have HK:Hid (aP w0 w.heap.size y.arr 59):=by show aP _ _ _ _;rw[hw0];exact aP.new0 w y.arr _
 have HVC:Hid (Calls Tryz.prog 46 #[.slice a xs.length c] w0 fun e w'=>e=.returned (.int .i64 0)∧Below w0.heap.size w0 w'):=by
  have h:=lC xs a c w0 (hE.below HA.out) hv.len (hv.facts.below HA.out) hv.ok;rw[hvc] at h;exact h
 have HFC:Hid (∀W,Below w.heap.size w W→Calls Tryz.prog 78 #[.agg y.arr] W fun e w'=>e=.returned (.int .i64 (bY y.f))∧Below W.heap.size W w'):=fun W hW=>rT y.f y.pa y.oa y.pc y.oc W (hE.below hW) hy.small hy.cap (hb.below hW)
 have HSZ:Hid ((Tryz.prog.info? 59).map (·.size)=some y.arr.size):=aY y.f y.pa y.oa y.pc y.oc;clear hE hv hvc hy hb;generalize bY y.f=fe at *;generalize y.arr=yc at *;generalize xs.length=n at *;have hfe:(fe==0)=false:=by simpa using hfc
 go_enter Tryz.func45,Tryz.ntmps45;go_wp2_with fail;rw[←hw0];clear hw0;refine HVC.out.mono ?_;rintro e w1 ⟨rfl,hb⟩;have HK1:=Hd (HK.out.below hb);have HB1:=Hd (aA HA.out hb);clear hb HVC HK HA;go_wp2_with (refine wpList_load_row rfl 59 _ rfl w.heap.size rfl 59 yc (0,0) _ HK1.out.2 Tryz.underlying59 rfl HSZ.out ?_);refine(HFC.out _ HB1.out).mono ?_;rintro e w2 ⟨rfl,hb⟩;have HB2:=Hd (aA HB1.out hb);clear hb HFC HK1 HB1;go_wp2;go_ret2;exact⟨rfl,HB2.out⟩
theorem aSb{fs:List aE}{x:aE}{i:Nat}{d:Int}(hv:dF fs=0)(hw:dF (aH8 fs i x)=0)(hp:aIb fs x i):
  (aJ0 (aH8 fs i x) x.ins d=aJ0 fs x.ins d∧(¬ x.kind=15∨x.kind=15∧d<x.day∨x.kind=15∧¬ d<x.day∧∃a,aJ0 fs x.ins d=some a∧x.day<a.day)) ∨
  (x.kind=15∧¬ d<x.day∧(∀a,aJ0 fs x.ins d=some a→¬ x.day<a.day)∧∃b,aJ0 (aH8 fs i x) x.ins d=some b∧b.day=x.day∧(b.price=x.price∨aJ0 fs x.ins d=some b)):=by
 by_cases hk:x.kind=15
 ·have hq:isQ x.ins x=true:=by unfold isQ;simp[hk]
  by_cases hd:d<x.day
  ·exact .inl ⟨aK6 hv hw (by simp;intro _;omega),.inr (.inl ⟨hk,hd⟩)⟩
  ·by_cases ha:∃a,aJ0 fs x.ins d=some a∧x.day<a.day
   ·obtain⟨a,h1,h2⟩:=ha;exact .inl ⟨(aKu hv hw hp h1 h2).trans h1.symm,.inr (.inr ⟨hk,hd,a,h1,h2⟩)⟩
   ·have hno:∀a,aJ0 fs x.ins d=some a→¬ x.day<a.day:=fun a h1 h2=>ha ⟨a,h1,h2⟩
    exact .inr ⟨hk,hd,hno,aLd hv hw hp hq (by omega) (fun a h=>by have:=hno a h;omega)⟩
 ·exact .inl ⟨aK6 hv hw (by unfold isQ;simp[hk]),.inl hk⟩
def aTb(was is:Bool)(kd d fd ad bd:Int)(an ad2 bn bd2 fn fd2:ByteArray):Prop :=
 (was=is∧ad=bd∧an=bn∧ad2=bd2∧(¬ kd=15∨kd=15∧d<fd∨kd=15∧¬ d<fd∧was=true∧fd<ad)) ∨
 (kd=15∧¬ d<fd∧(was=false∨was=true∧¬ fd<ad)∧is=true∧bd=fd∧((bn=fn∧bd2=fd2)∨(was=true∧ad=bd∧an=bn∧ad2=bd2)))
theorem aTh{A B:Option aJv}{x:aE}{d:Int}(h:(B=A∧(¬ x.kind=15∨x.kind=15∧d<x.day∨x.kind=15∧¬ d<x.day∧∃a,A=some a∧x.day<a.day)) ∨
  (x.kind=15∧¬ d<x.day∧(∀a,A=some a→¬ x.day<a.day)∧∃b,B=some b∧b.day=x.day∧(b.price=x.price∨A=some b))) :
  aTb A.isSome B.isSome x.kind d x.day (QV A).day (QV B).day ⟨(QV A).price.n.toArray⟩ ⟨(QV A).price.d.toArray⟩ ⟨(QV B).price.n.toArray⟩ ⟨(QV B).price.d.toArray⟩ ⟨x.price.n.toArray⟩ ⟨x.price.d.toArray⟩:=by
 rcases h with⟨rfl,h⟩|⟨h1,h2,h3,b,rfl,hd,h⟩
 ·refine .inl ⟨rfl,rfl,rfl,rfl,?_⟩;rcases h with h|h|⟨h1,h2,a,rfl,h3⟩
  ·exact .inl h
  ·exact .inr (.inl h)
  ·exact .inr (.inr ⟨h1,h2,rfl,h3⟩)
 ·refine .inr ⟨h1,h2,?_,rfl,hd,?_⟩
  ·cases A with
   |none=>exact .inl rfl
   |some a=>exact .inr ⟨rfl,h3 a rfl⟩
  ·rcases h with h|rfl
   ·left;show (⟨b.price.n.toArray⟩:ByteArray)=_∧(⟨b.price.d.toArray⟩:ByteArray)=_;rw[h];exact⟨rfl,rfl⟩
   ·exact .inr ⟨rfl,rfl,rfl,rfl⟩
theorem aQq(xs:List aF)(x:aF)(d:Int)(a:Option Addr)(c:Nat)(w:World)(hE:iE w)(hn:xs.length≤9223372036854775807)(_hcap:xs.length≤c)(hr:fS w a xs)(hf:∀x,x∈xs→x.fits)(hbx:x.f.Behind w x.pa x.oa)(hfx:x.fits):
  Calls Tryz.prog 10 #[.slice a xs.length c,.agg x.arr,.int .i64 d] w fun e w'=>e=.returned (.bool true)∧Below w.heap.size w w':=by
 have KX:=Hd (aP.new0 w x.arr 59);have HB0:=Hd (aB w (.cells x.arr 59));have HG:=Hd (aQn xs a c (w.alloc (.cells x.arr 59)) (hE.below HB0.out) hn (hr.below HB0.out) hf);have HAW:Hid (∀W,Below w.heap.size w W→Calls Tryz.prog 12 #[] W fun e w'=>e=.returned (.bool true)∧Below W.heap.size W w'):=fun W hb=>aQe W (hE.below hb)
 have HE:=Hd hE;have HR:=Hd hr;have HF:=Hd hf;have HFX:=Hd hfx;have HBX:=Hd hbx;have HRUN:Hid (∀W,(Instr.buildSlice 22 1 #[(0,.agg x.arr)]).run Tryz.prog W=.ok (.slice (some ⟨W.heap.size,0,none⟩) 1 1) (W.alloc (.cells x.arr 59))):=fun W=>tF x.arr rfl W
 have HG1:Hid (∀W B,Below w.heap.size w W→aP W B x.arr 59→Calls Tryz.prog 27 #[.slice (some ⟨B,0,none⟩) 1 1] W fun e w'=>uK ((∀y,y∈[x]→y.f.tight)∧([x].length≤12∨1000 < [x].length∧[x].length≤1003)) e∧Below W.heap.size W w'):=fun W B hb hB=>by
  have h:=aQw [x] (some ⟨B,0,none⟩) 1 W (by simp) (uV x hB (hbx.below hb)) (by intro y hy;rw[List.mem_singleton] at hy;subst hy;exact hfx);exact h
 have HSZ:Hid ((Tryz.prog.info? 59).map (·.size)=some x.arr.size):=aY x.f x.pa x.oa x.pc x.oc;have HX0:Hid (x.arr[0]?=some (.string ⟨x.f.key.toArray⟩)∧x.arr[2]?=some (.bool x.f.cancelled)∧x.arr[3]?=some (.int .i64 x.f.day)∧x.arr[4]?=some (.int .i64 x.f.kind)∧x.arr[5]?=some (.string ⟨x.f.ins.toArray⟩)∧x.arr[12]?=some (.string ⟨x.f.price.n.toArray⟩)∧x.arr[13]?=some (.string ⟨x.f.price.d.toArray⟩)):=⟨rfl,rfl,rfl,rfl,rfl,rfl,rfl⟩
 obtain⟨fc,hfc⟩:∃fc,fc=x.arr:=⟨_,rfl⟩
 have HFC:=Hd hfc;rw[←hfc] at KX HB0 HG HSZ HRUN HX0 HG1 ⊢;obtain⟨w0,hw0⟩:∃w0,w0=w.alloc (.cells fc 59):=⟨_,rfl⟩
 rw[←hw0] at KX HB0 HG;clear hE hr hf hbx hfx hfc _hcap;go_enter Tryz.func10,Tryz.ntmps10;go_wp2_with fail;rw[←hw0];clear hw0;refine HG.out.mono ?_;rintro e w1 ⟨⟨g,rfl,hg⟩,hb⟩;have HB1:=Hd (aA HB0.out hb);have KX1:=Hd (KX.out.below hb);have HGG:=Hd hg;clear hb hg HG KX HB0;cases g with
 |false =>
  go_wp2_with fail;refine(HAW.out _ HB1.out).mono ?_;rintro e wz ⟨rfl,hb⟩;go_wp2;go_ret;exact⟨rfl,aA HB1.out hb⟩
 |true =>
  have HFI:=Hd (HGG.out rfl);clear HGG
  by_cases h1:(11:Int)<(xs.length:Int)
  ·have h1':decide ((11:Int)<(xs.length:Int))=true:=decide_eq_true h1;go_wp2_with fail;refine(HAW.out _ HB1.out).mono ?_;rintro e wz ⟨rfl,hb⟩;go_wp2;go_ret;exact⟨rfl,aA HB1.out hb⟩
  have h1':decide ((11:Int)<(xs.length:Int))=false:=decide_eq_false h1;have HRUN1:=Hd (HRUN.out w1);have HBn:=Hd (aA HB1.out (aB w1 (.cells fc 59)));have KXn:=Hd (KX1.out.below (aB w1 (.cells fc 59)));have HG2:=Hd (HG1.out _ w1.heap.size HBn.out (aP.new0 w1 fc 59));clear HRUN HG1;obtain⟨w2,hw2⟩:∃w2,w2=w1.alloc (.cells fc 59):=⟨_,rfl⟩
  rw[←hw2] at HRUN1 HBn KXn HG2;clear hw2;go_wp2_with (first|(refine gV (by rfl) 59 _ rfl w.heap.size rfl 59 fc (0,0) _ KX1.out.2 Tryz.underlying59 rfl HSZ.out ?_;simp only[pS])|(refine aRd (by rfl) 22 1 _ rfl #[(0,.agg fc)] _ (by simp[Act.eval]) HRUN1.out ?_;simp only[pS]));refine HG2.out.mono ?_;rintro e w3 ⟨⟨g,rfl,hg⟩,hb⟩;have HB3:=Hd (aA HBn.out hb);have KX3:=Hd (KXn.out.below hb);have HGS:=Hd hg;clear hb hg HG2 HBn KXn HRUN1 KX1 HB1;cases g with
  |true =>
   go_wp2_with fail;refine(HAW.out _ HB3.out).mono ?_;rintro e wz ⟨rfl,hb⟩;go_wp2;go_ret;exact⟨rfl,aA HB3.out hb⟩
  |false =>
   have HTX:Hid x.f.tight:=(HGS.out rfl).1 x (by simp);have k2:=(KX3.out.cell 2).trans HX0.out.2.1;clear HGS;cases hca:x.f.cancelled with
   |true =>
    rw[hca] at k2;go_wp2_with fail;refine(HAW.out _ HB3.out).mono ?_;rintro e wz ⟨rfl,hb⟩;go_wp2;go_ret;exact⟨rfl,aA HB3.out hb⟩
   |false =>
   rw[hca] at k2
   by_cases h2:d < -25567
   ·have h2':decide (d < -25567)=true:=decide_eq_true h2;go_wp2_with fail;refine(HAW.out _ HB3.out).mono ?_;rintro e wz ⟨rfl,hb⟩;go_wp2;go_ret;exact⟨rfl,aA HB3.out hb⟩
   have h2':decide (d < -25567)=false:=decide_eq_false h2
   by_cases h3:84005<d
   ·have h3':decide (84005<d)=true:=decide_eq_true h3;go_wp2_with fail;refine(HAW.out _ HB3.out).mono ?_;rintro e wz ⟨rfl,hb⟩;go_wp2;go_ret;exact⟨rfl,aA HB3.out hb⟩
   have h3':decide (84005<d)=false:=decide_eq_false h3;have hV:gT w a c xs:=⟨HR.out,fun y hy=>⟨(HFI.out.1 y hy).small,(HF.out y hy).picks⟩,by have:=HFI.out.2.1;omega⟩
   have hXO:x.ok:=⟨HTX.out.small,HFX.out.picks⟩
   have hvc:=HFI.out.2.2;have hlen:xs.length<1000:=by omega
   have HFN:Hid (∀W,Below w.heap.size w W→Calls Tryz.prog 44 #[.slice a xs.length c,.string ⟨x.f.key.toArray⟩] W fun e w'=>e=.returned (qN (xs.map aF.f) x.f.key)∧Below W.heap.size W w'):=fun W hb=>aG3 xs a c x.f.key W (by omega) (hV.facts.below hb)
   have HAB:Hid (¬ bY x.f=0→∀W,Below w.heap.size w W→Calls Tryz.prog 45 #[.slice a xs.length c,.agg fc] W fun e w'=>e=.returned (.tuple #[.slice none 0 0,.int .i64 (bY x.f)])∧Below W.heap.size W w'):=fun h W hb=>by
    rw[HFC.out];exact aRp xs a c x W (HE.out.below hb) (hV.below hb) hvc hXO (HBX.out.below hb) h
   have HAG:Hid (bY x.f=0→lT (xs.map aF.f) x.f.key=none→∀W,Below w.heap.size w W→Calls Tryz.prog 45 #[.slice a xs.length c,.agg fc] W fun e w'=>(∃(zs:List aF) (a':Option Addr) (c':Nat),e=.returned (.tuple #[.slice a' zs.length c',.int .i64 0])∧gT w' a' c' zs∧dF (zs.map aF.f)=0 ∧
     aTb (aJ0 (xs.map aF.f) x.f.ins d).isSome (aJ0 (zs.map aF.f) x.f.ins d).isSome x.f.kind d x.f.day (QV (aJ0 (xs.map aF.f) x.f.ins d)).day (QV (aJ0 (zs.map aF.f) x.f.ins d)).day ⟨(QV (aJ0 (xs.map aF.f) x.f.ins d)).price.n.toArray⟩ ⟨(QV (aJ0 (xs.map aF.f) x.f.ins d)).price.d.toArray⟩ ⟨(QV (aJ0 (zs.map aF.f) x.f.ins d)).price.n.toArray⟩ ⟨(QV (aJ0 (zs.map aF.f) x.f.ins d)).price.d.toArray⟩ ⟨x.f.price.n.toArray⟩ ⟨x.f.price.d.toArray⟩)∧Below W.heap.size W w'):=fun h hk W hb=>by
    rw[HFC.out];refine(aIs xs a c x W (HE.out.below hb) (hV.below hb) hvc hlen hXO (HBX.out.below hb) h hca).mono ?_;rintro e w' ⟨⟨i,zs,a',c',hp,hz,rfl,hvz,hvc'⟩,hb'⟩;rw[aJn hk] at hp hz;refine⟨⟨zs,a',c',rfl,hvz,hvc',?_⟩,hb'⟩;rw[hz] at hvc' ⊢;exact aTh (x:=x.f) (aSb (x:=aIf x.f) hvc hvc' ⟨hp.le,hp.lo,hp.hi⟩)
   have HLT:Hid (∀(zs:List aF) (a':Option Addr) (c':Nat) W,Below w.heap.size w W→gT W a' c' zs→dF (zs.map aF.f)=0→Calls Tryz.prog 28 #[.slice a' zs.length c',.string ⟨x.f.ins.toArray⟩,.int .i64 d] W fun e w'=>e=.returned (.tuple #[.agg (aOx (QV (aJ0 (zs.map aF.f) x.f.ins d))),.bool (aJ0 (zs.map aF.f) x.f.ins d).isSome,.int .i64 0])∧Below W.heap.size W w'):=fun zs a' c' W hb hv hc=>by
    have h:=aQo zs a' c' x.f.ins d W (HE.out.below hb) hv;have e1:aPz (zs.map aF.f) x.f.ins d=aJ0 (zs.map aF.f) x.f.ins d:=by unfold aPz;rw[if_pos (aPr hc h2 h3 (by decide))]
    rw[e1,aPr hc h2 h3 (by decide)] at h;exact h
   have HV:=Hd hV;have HVC:=Hd hvc;have HX:Hid (fc[0]?=some (.string ⟨x.f.key.toArray⟩)∧fc[3]?=some (.int .i64 x.f.day)∧fc[4]?=some (.int .i64 x.f.kind)∧fc[5]?=some (.string ⟨x.f.ins.toArray⟩)∧fc[12]?=some (.string ⟨x.f.price.n.toArray⟩)∧fc[13]?=some (.string ⟨x.f.price.d.toArray⟩)):=⟨HX0.out.1,HX0.out.2.2⟩
   have k0:=(KX3.out.cell 0).trans HX.out.1;clear HR HF HFX HFI HTX HE HBX HFC hV hXO hvc hca HX0;go_wp2_with fail;refine(HFN.out _ HB3.out).mono ?_;rintro e w4 ⟨rfl,hb⟩;have HB4:=Hd (aA HB3.out hb);have KX4:=Hd (KX3.out.below hb);clear hb HB3 KX3 HFN k0 k2;unfold qN;cases hk:lT (xs.map aF.f) x.f.key with
   |some j =>
    go_wp2_with fail;refine(HAW.out _ HB4.out).mono ?_;rintro e wz ⟨rfl,hb⟩;go_wp2;go_ret;exact⟨rfl,aA HB4.out hb⟩
   |none =>
   have HK:=Hd hk;clear hk
   by_cases hfe:bY x.f=0
   case neg =>
    have HAF:=Hd (HAB.out hfe);have hfe':(bY x.f==0)=false:=by simpa using hfe
    clear HAB HAG;generalize bY x.f=fe at *;go_wp2_with (refine wpList_load_row rfl 59 _ rfl w.heap.size rfl 59 fc (0,0) _ KX4.out.2 Tryz.underlying59 rfl HSZ.out ?_;simp only[pS]);refine(HAF.out _ HB4.out).mono ?_;rintro e w5 ⟨rfl,hb⟩;have HB5:=Hd (aA HB4.out hb);clear hb;go_wp2_with fail;refine(HAW.out _ HB5.out).mono ?_;rintro e wz ⟨rfl,hb⟩;go_wp2;go_ret;exact⟨rfl,aA HB5.out hb⟩
   have HAF:=Hd (HAG.out hfe HK.out);clear HAB HAG HK hfe;go_wp2_with (refine wpList_load_row rfl 59 _ rfl w.heap.size rfl 59 fc (0,0) _ KX4.out.2 Tryz.underlying59 rfl HSZ.out ?_;simp only[pS]);refine(HAF.out _ HB4.out).mono ?_;rintro e w5 ⟨⟨zs,a',c',rfl,hvz,hvcz,hlc⟩,hb⟩;have HB5:=Hd (aA HB4.out hb);have KX5:=Hd (KX4.out.below hb);have HLC:=Hd hlc;have HVZ:=Hd hvz;have HL1:=Hd (HLT.out xs a c w5 HB5.out (HV.out.below HB5.out) HVC.out);have HL2:Hid (∀W,Below w5.heap.size w5 W→Calls Tryz.prog 28 #[.slice a' zs.length c',.string ⟨x.f.ins.toArray⟩,.int .i64 d] W fun e w'=>e=.returned (.tuple #[.agg (aOx (QV (aJ0 (zs.map aF.f) x.f.ins d))),.bool (aJ0 (zs.map aF.f) x.f.ins d).isSome,.int .i64 0])∧Below W.heap.size W w'):=fun W hW=>HLT.out zs a' c' W (aA HB5.out hW) (HVZ.out.below hW) hvcz
   have HQC:Hid (∀q:aJv,(aOx q)[0]?=some (.int .i64 q.day)∧(aOx q)[1]?=some (.string ⟨q.price.n.toArray⟩)∧(aOx q)[2]?=some (.string ⟨q.price.d.toArray⟩)):=fun _=>⟨rfl,rfl,rfl⟩
   have HQA:=Hd (HQC.out (QV (aJ0 (xs.map aF.f) x.f.ins d)));have HQB:=Hd (HQC.out (QV (aJ0 (zs.map aF.f) x.f.ins d)));have HSQA:Hid ((Tryz.prog.info? 46).map (·.size)=some (aOx (QV (aJ0 (xs.map aF.f) x.f.ins d))).size):=aPm;have HSQB:Hid ((Tryz.prog.info? 46).map (·.size)=some (aOx (QV (aJ0 (zs.map aF.f) x.f.ins d))).size):=aPm;have HONA:=Hd (aPw (QV (aJ0 (xs.map aF.f) x.f.ins d)));have HONB:=Hd (aPw (QV (aJ0 (zs.map aF.f) x.f.ins d)));have HS3A:Hid (Z3.size=(aOx (QV (aJ0 (xs.map aF.f) x.f.ins d))).size):=rfl;have HS3B:Hid (Z3.size=(aOx (QV (aJ0 (zs.map aF.f) x.f.ins d))).size):=rfl;have x5:=(KX5.out.cell 5).trans HX.out.2.2.2.1;clear hb hvz hvcz hlc HLT HV HVC HVZ HAF HB4 KX4 HQC;generalize aOx (QV (aJ0 (xs.map aF.f) x.f.ins d))=qa at *;generalize aOx (QV (aJ0 (zs.map aF.f) x.f.ins d))=qb at *;generalize(aJ0 (xs.map aF.f) x.f.ins d).isSome=was at *;generalize(aJ0 (zs.map aF.f) x.f.ins d).isSome=is at *;generalize(QV (aJ0 (xs.map aF.f) x.f.ins d)).day=ad at *;generalize(QV (aJ0 (zs.map aF.f) x.f.ins d)).day=bd at *;generalize(⟨(QV (aJ0 (xs.map aF.f) x.f.ins d)).price.n.toArray⟩:ByteArray)=an at *;generalize(⟨(QV (aJ0 (xs.map aF.f) x.f.ins d)).price.d.toArray⟩:ByteArray)=ad2 at *;generalize(⟨(QV (aJ0 (zs.map aF.f) x.f.ins d)).price.n.toArray⟩:ByteArray)=bn at *;generalize(⟨(QV (aJ0 (zs.map aF.f) x.f.ins d)).price.d.toArray⟩:ByteArray)=bd2 at *;generalize(⟨x.f.price.n.toArray⟩:ByteArray)=fn at *;generalize(⟨x.f.price.d.toArray⟩:ByteArray)=fd2 at *;generalize x.f.day=fd at *;generalize x.f.kind=kd at *;generalize xs.length=n at *;generalize zs.length=nz at *;go_wp2_with fail;refine HL1.out.mono ?_;rintro e w6 ⟨rfl,hb⟩;have HB6:=Hd (aA HB5.out hb);have KX6:=Hd (KX5.out.below hb);have HBz:=Hd hb;have HN6:=Hd (aB w6 (.cells Z3 46));have KN6:=Hd (aP.new0 w6 Z3 46);clear hb HL1 HB5 KX5 x5;go_wp2_with (refine aOw rfl 46 _ _ rfl w6.heap.size rfl qa rfl KN6.out HSQA.out HS3A.out HONA.out ?_;intro w7 kx bx _ _;have hb8:=HN6.out.trans (bx _ (Nl _));have HB7:=Hd (aA HB6.out hb8);have HBz7:=Hd (aA HBz.out hb8);have KX7:=Hd (KX6.out.below hb8);have KA7:=Hd kx;have x5:=(KX7.out.cell 5).trans HX.out.2.2.2.1;clear kx bx hb8);refine(HL2.out _ HBz7.out).mono ?_;rintro e w8 ⟨rfl,hb⟩;have HB8:=Hd (aA HB7.out hb);have KX8:=Hd (KX7.out.below hb);have KA8:=Hd (KA7.out.below hb);have HN8:=Hd (aB w8 (.cells Z3 46));have KN8:=Hd (aP.new0 w8 Z3 46);clear hb HL2 HB7 HBz7 KX7 KA7 x5 HN6 KN6 HB6 HBz KX6;have HCS:Hid ((was=is∧ad=bd∧an=bn∧ad2=bd2∧(¬ kd=15∨kd=15∧d<fd∨kd=15∧¬ d<fd∧was=true∧fd<ad)) ∨
    (kd=15∧¬ d<fd∧(was=false∨was=true∧¬ fd<ad)∧is=true∧bd=fd∧((bn.toList=fn.toList∧bd2.toList=fd2.toList)∨(was=true∧ad=bd∧an=bn∧ad2=bd2∧(¬ bn.toList=fn.toList∨bn.toList=fn.toList∧¬ bd2.toList=fd2.toList))))):=by
    rcases HLC.out with h|⟨h1,h2,h3,h4,h5,h6⟩
    ·exact .inl h
    ·refine .inr ⟨h1,h2,h3,h4,h5,?_⟩;rcases h6 with⟨rfl,rfl⟩|⟨g1,g2,g3,g4⟩
     ·exact .inl ⟨rfl,rfl⟩
     ·by_cases t1:bn.toList=fn.toList
      ·by_cases t2:bd2.toList=fd2.toList
       ·exact .inl ⟨t1,t2⟩
       ·exact .inr ⟨g1,g2,g3,g4,.inr ⟨t1,t2⟩⟩
      ·exact .inr ⟨g1,g2,g3,g4,.inl t1⟩
   clear HLC;rcases HCS.out with⟨rfl,rfl,rfl,rfl,hcs⟩|⟨hk15,hdf,hwas,rfl,rfl,hpr⟩
   ·rcases hcs with hkd|⟨hkd,hdf⟩|⟨hkd,hdf,rfl,had⟩
    all_goals
     clear HCS
     try have hkd':(kd==15)=false:=by simpa using hkd
     go_wp2_with (refine aOw rfl 46 _ _ rfl w8.heap.size rfl qb rfl KN8.out HSQB.out HS3B.out HONB.out ?_;intro w9 kx bx _ _;have hb8:=HN8.out.trans (bx _ (Nl _));have HB9:=Hd (aA HB8.out hb8);have a0:=((KA8.out.below hb8).cell 0).trans HQA.out.1;have a1:=((KA8.out.below hb8).cell 1).trans HQA.out.2.1;have a2:=((KA8.out.below hb8).cell 2).trans HQA.out.2.2;have b0:=(kx.cell 0).trans HQB.out.1;have b1:=(kx.cell 1).trans HQB.out.2.1;have b2:=(kx.cell 2).trans HQB.out.2.2;have f3:=((KX8.out.below hb8).cell 3).trans HX.out.2.1;have f4:=((KX8.out.below hb8).cell 4).trans HX.out.2.2.1;clear kx bx hb8);refine(HAW.out _ HB9.out).mono ?_;rintro e wz ⟨rfl,hb⟩;go_wp2;go_ret;exact⟨rfl,aA HB9.out hb⟩
   ·rcases hpr with⟨t1,t2⟩|⟨rfl,rfl,rfl,rfl,hne|⟨heq,hne⟩⟩
    ·rcases hwas with rfl|⟨rfl,had⟩
     all_goals
      clear HCS;go_wp2_with (refine aOw rfl 46 _ _ rfl w8.heap.size rfl qb rfl KN8.out HSQB.out HS3B.out HONB.out ?_;intro w9 kx bx _ _;have hb8:=HN8.out.trans (bx _ (Nl _));have HB9:=Hd (aA HB8.out hb8);have a0:=((KA8.out.below hb8).cell 0).trans HQA.out.1;have b0:=(kx.cell 0).trans HQB.out.1;have b1:=(kx.cell 1).trans HQB.out.2.1;have b2:=(kx.cell 2).trans HQB.out.2.2;have f3:=((KX8.out.below hb8).cell 3).trans HX.out.2.1;have f4:=((KX8.out.below hb8).cell 4).trans HX.out.2.2.1;have f12:=((KX8.out.below hb8).cell 12).trans HX.out.2.2.2.2.1;have f13:=((KX8.out.below hb8).cell 13).trans HX.out.2.2.2.2.2;clear kx bx hb8);refine(HAW.out _ HB9.out).mono ?_;rintro e wz ⟨rfl,hb⟩;go_wp2;go_ret;exact⟨rfl,aA HB9.out hb⟩
    all_goals
     have had:¬ ad<ad:=by omega
     clear HCS hwas;go_wp2_with (refine aOw rfl 46 _ _ rfl w8.heap.size rfl qb rfl KN8.out HSQB.out HS3B.out HONB.out ?_;intro w9 kx bx _ _;have hb8:=HN8.out.trans (bx _ (Nl _));have HB9:=Hd (aA HB8.out hb8);have a0:=((KA8.out.below hb8).cell 0).trans HQA.out.1;have a1:=((KA8.out.below hb8).cell 1).trans HQA.out.2.1;have a2:=((KA8.out.below hb8).cell 2).trans HQA.out.2.2;have b0:=(kx.cell 0).trans HQB.out.1;have b1:=(kx.cell 1).trans HQB.out.2.1;have b2:=(kx.cell 2).trans HQB.out.2.2;have f3:=((KX8.out.below hb8).cell 3).trans HX.out.2.1;have f4:=((KX8.out.below hb8).cell 4).trans HX.out.2.2.1;have f12:=((KX8.out.below hb8).cell 12).trans HX.out.2.2.2.2.1;have f13:=((KX8.out.below hb8).cell 13).trans HX.out.2.2.2.2.2;clear kx bx hb8);refine(HAW.out _ HB9.out).mono ?_;rintro e wz ⟨rfl,hb⟩;go_wp2;go_ret;exact⟨rfl,aA HB9.out hb⟩
end Go.Proofs.YtejkibnaidiklaaGreatDoor
