/- ElectionOthersLaw -/
import Derived.Test.YtbcebibkpfklnaaGreatDoorJMem
import Derived.Test.YtbcebibkpfklnaaGreatDoorJAfterB
import Derived.Test.YtbcebibkpfklnaaGreatDoorJFindA
import Derived.Test.YtbcebibkpfklnaaGreatDoorJRViewA
import Derived.Test.YtbcebibkpfklnaaGreatDoorJElectionA
set_option maxHeartbeats 16000000
set_option maxRecDepth 100000
namespace Go.Proofs.YtbcebibkpfklnaaGreatDoor
open Go Go.RowKit Num
theorem aH2(xc yc:Array Value)(h1:xc.size=21)(h2:yc.size=21)(w:World):(Instr.buildSlice 22 2 #[(0,.agg xc),(1,.agg yc)]).run Tryz.prog w=.ok (.slice (some ⟨w.heap.size,0,none⟩) 2 2) (w.alloc (.cells (xc++yc) 30)):=by
 obtain⟨l⟩:=xc;obtain⟨m⟩:=yc
 match l,h1 with
 | [a0,a1,a2,a3,a4,a5,a6,a7,a8,a9,a10,a11,a12,a13,a14,a15,a16,a17,a18,a19,a20],_ =>
  match m,h2 with
  | [b0,b1,b2,b3,b4,b5,b6,b7,b8,b9,b10,b11,b12,b13,b14,b15,b16,b17,b18,b19,b20],_=>simp[go_sem]
theorem aHy{w:World}{B:Nat}(x y:aF)(h:aP w B (x.arr++y.arr) 30)(hx:x.f.Behind w x.pa x.oa)(hy:y.f.Behind w y.pa y.oa):fS w (some ⟨B,0,none⟩) [x,y]:=by
 refine⟨oY (by decide) Fa (.inr ⟨B,0,rfl,h.1,fun j v hv=>?_⟩),fun z hz=>?_⟩
 ·rw[Nat.zero_add,h.cell j,←hv,←Array.getElem?_toList];simp[aF.cells]
 ·rcases List.mem_cons.1 hz with rfl|hz
  ·exact hx
  ·rw[List.mem_singleton] at hz;subst hz;exact hy
theorem aHw(xs:List aF)(x y:aF)(a:Option Addr)(c:Nat)(w:World)(hE:iE w)(hn:xs.length≤9223372036854775807)(hcap:xs.length≤c)(hr:fS w a xs)(hf:∀x,x∈xs→x.fits)(hb:x.f.Behind w x.pa x.oa)(hfx:x.fits)(hb2:y.f.Behind w y.pa y.oa)(hfy:y.fits):
  Calls Tryz.prog 9 #[.slice a xs.length c,.agg x.arr,.agg y.arr] w fun e w'=>e=.returned (.bool true)∧Below w.heap.size w w':=by
 have HB0:=Hd (aA (aB w (.cells x.arr 30)) (aB (w.alloc (.cells x.arr 30)) (.cells y.arr 30)));have HX0:=Hd ((aP.new0 w x.arr 30).below (aB _ (.cells y.arr 30)));have hy0:=aP.new0 (w.alloc (.cells x.arr 30)) y.arr 30;rw[World.size_alloc] at hy0;have HY0:=Hd hy0;have hrun:=aH2 x.arr y.arr rfl rfl ((w.alloc (.cells x.arr 30)).alloc (.cells y.arr 30));rw[World.size_alloc,World.size_alloc] at hrun;have HRUN:=Hd hrun;have hba:=aB ((w.alloc (.cells x.arr 30)).alloc (.cells y.arr 30)) (.cells (x.arr++y.arr) 30);have HBA:=Hd (aA HB0.out hba);have HX1:=Hd (HX0.out.below hba);have HY1:=Hd (HY0.out.below hba);have KR:=aP.new0 ((w.alloc (.cells x.arr 30)).alloc (.cells y.arr 30)) (x.arr++y.arr) 30;rw[World.size_alloc,World.size_alloc] at KR;have HG:=Hd (nJ xs [x,y] a (some ⟨w.heap.size+1+1,0,none⟩) c 2 _ hn (hr.below HBA.out) hf (by simp) (aHy x y KR (hb.below HBA.out) (hb2.below HBA.out)) (by
  intro z hz;rcases List.mem_cons.1 hz with rfl|hz
  ·exact hfx
  ·rw[List.mem_singleton] at hz;subst hz;exact hfy))
 rw[show [x,y].length=2 from rfl] at HG;have HAW:Hid (∀W,Below w.heap.size w W→Calls Tryz.prog 11 #[] W fun e w'=>e=.returned (.bool true)∧Below W.heap.size W w'):=fun W hb=>nR W (hE.below hb)
 have HSX:Hid ((Tryz.prog.info? 30).map (·.size)=some x.arr.size):=aY x.f x.pa x.oa x.pc x.oc;have HSY:Hid ((Tryz.prog.info? 30).map (·.size)=some y.arr.size):=aY y.f y.pa y.oa y.pc y.oc;have HE:=Hd hE;have HR:=Hd hr;have HF:=Hd hf;have HBX:=Hd hb;have HBY:=Hd hb2;have HFX:=Hd hfx;have HFY:=Hd hfy;have HXC:Hid (x.arr[0]?=some (.string ⟨x.f.key.toArray⟩)∧x.arr[3]?=some (.int .i64 x.f.day)∧x.arr[5]?=some (.string ⟨x.f.ins.toArray⟩)∧x.arr[19]?=some (.slice x.oa x.f.options.length x.oc)):=⟨rfl,rfl,rfl,rfl⟩
 have HYC:Hid (y.arr[0]?=some (.string ⟨y.f.key.toArray⟩)∧y.arr[2]?=some (.bool y.f.cancelled)∧y.arr[3]?=some (.int .i64 y.f.day)∧y.arr[4]?=some (.int .i64 y.f.kind)∧y.arr[5]?=some (.string ⟨y.f.ins.toArray⟩)∧y.arr[8]?=some (.string ⟨y.f.target.toArray⟩)∧y.arr[20]?=some (.int .i64 y.f.choice)):=⟨rfl,rfl,rfl,rfl,rfl,rfl,rfl⟩
 obtain⟨fc,hfc⟩:∃fc,fc=x.arr:=⟨_,rfl⟩
 obtain⟨yc,hyc⟩:∃yc,yc=y.arr:=⟨_,rfl⟩
 have HFC:=Hd hfc;have HYA:=Hd hyc;rw[←hfc,←hyc] at HRUN HBA HG HX1 HY1 HX0 HY0 ⊢;rw[←hfc] at HSX HXC;rw[←hyc] at HSY HYC;clear hE hr hf hb hb2 hfx hfy hfc hyc hba hy0 hrun KR HB0;go_enter Tryz.func9,Tryz.ntmps9;go_wp2_with (first|(refine wpList_load_row rfl 30 _ rfl w.heap.size rfl 30 fc (0,0) _ HX0.out.2 Tryz.underlying30 rfl HSX.out ?_;simp only[pS])|(refine wpList_load_row rfl 30 _ rfl (w.heap.size+1) rfl 30 yc (0,0) _ HY0.out.2 Tryz.underlying30 rfl HSY.out ?_;simp only[pS])|(refine lA rfl 22 2 _ rfl #[(0,.agg fc),(1,.agg yc)] _ (by simp[Act.eval]) HRUN.out ?_;simp only[pS]));refine HG.out.mono ?_;rintro e w2 ⟨⟨g,rfl,hg⟩,hb⟩;have HB1:=HBA;clear HBA;have HB2:=Hd (aA HB1.out hb);have HX2:=Hd (HX1.out.below hb);have HY2:=Hd (HY1.out.below hb);clear hb HB1 HX1 HY1 HG HRUN HX0 HY0;have HGS:=Hd hg;clear hg;cases g with
 |true =>
  go_wp2_with fail;refine(HAW.out _ HB2.out).mono ?_;rintro e wz ⟨rfl,hb⟩;go_wp2;go_ret;exact⟨rfl,aA HB2.out hb⟩
 |false =>
  have HSM:=Hd (HGS.out rfl);clear HGS;have hlen:xs.length≤1003:=by rcases HSM.out.1.2 with h|h <;> omega
  have HTX:Hid x.f.tight:=HSM.out.2 x (by simp);have HTY:Hid y.f.tight:=HSM.out.2 y (by simp);have HV:Hid (gT w a c xs):=⟨HR.out,fun y hy=>⟨(HSM.out.1.1 y hy).small,(HF.out y hy).picks⟩,by omega⟩
  have HXO:Hid x.ok:=⟨HTX.out.small,HFX.out.picks⟩
  have HYO:Hid y.ok:=⟨HTY.out.small,HFY.out.picks⟩
  obtain⟨fs,hfs⟩:∃fs,fs=xs.map aF.f:=⟨_,rfl⟩
  have HXK:Hid (∀W,Below w.heap.size w W→Calls Tryz.prog 16 #[.agg fc] W fun e w'=>e=.returned (.int .i64 (dQ x.f))∧Below W.heap.size W w'):=fun W hb=>by
   rw[HFC.out];exact rZ x W (HE.out.below hb) HXO.out (HBX.out.below hb)
  have HRC:Hid (∀W,Below w.heap.size w W→Calls Tryz.prog 30 #[.slice a xs.length c] W fun e w'=>e=.returned (.int .i64 (dF fs))∧Below W.heap.size W w'):=fun W hb=>by
   rw[hfs];exact Fp xs a c W (by omega) hcap (HR.out.below hb) HSM.out.1.1
  have HFK:Hid (∀W,Below w.heap.size w W→Calls Tryz.prog 32 #[.agg yc] W fun e w'=>e=.returned (.int .i64 (bY y.f))∧Below W.heap.size W w'):=fun W hb=>by
   rw[HYA.out];exact rT y.f y.pa y.oa y.pc y.oc W (HE.out.below hb) HYO.out.small HYO.out.cap (HBY.out.below hb)
  have HFI:Hid (∀W,Below w.heap.size w W→Calls Tryz.prog 22 #[.slice a xs.length c,.string ⟨y.f.key.toArray⟩] W fun e w'=>e=.returned (qN fs y.f.key)∧Below W.heap.size W w'):=fun W hb=>by
   rw[hfs];exact aG3 xs a c y.f.key W (by omega) (HR.out.below hb)
  have HCH:Hid (∀(zs:List aF) (a':Option Addr) (c':Nat) W,Below w.heap.size w W→gT W a' c' zs→Calls Tryz.prog 12 #[.slice a' zs.length c',.agg fc] W fun e w'=>e=.returned (.tuple #[.int .i64 (bC (zs.map aF.f) x.f),.int .i64 (aL (zs.map aF.f) x.f)])∧Below W.heap.size W w'):=fun zs a' c' W hb hv=>by
   rw[HFC.out];exact fE zs a' c' x W (HE.out.below hb) hv HXO.out (HBX.out.below hb)
  have HAF:Hid (dF fs=0→bY y.f=0→y.f.cancelled=false→∀W,Below w.heap.size w W→Calls Tryz.prog 31 #[.slice a xs.length c,.agg yc] W fun e w'=>(∃(i:Nat) (zs:List aF) (a':Option Addr) (c':Nat),aIb ((aH9 xs y).map aF.f) y.f i∧zs.map aF.f=aH8 ((aH9 xs y).map aF.f) i (aIf y.f)∧e=.returned (.tuple #[.slice a' zs.length c',.int .i64 0])∧gT w' a' c' zs∧dF (zs.map aF.f)=0)∧Below W.heap.size W w'):=fun h1 h2 h3 W hb=>by
   rw[hfs] at h1;rw[HYA.out];have hl:xs.length<1000:=by
    have h:=(aHx h1).1;rw[List.length_map] at h;rcases HSM.out.1.2 with h'|h' <;> omega
   exact aIs xs a c y W (HE.out.below hb) (HV.out.below hb) h1 hl HYO.out (HBY.out.below hb) h2 h3
  have HNO:Hid (lT fs y.f.key=none→(aH9 xs y).map aF.f=fs):=fun h=>by
   rw[hfs] at h ⊢;exact aJn h
  have HEL:Hid (bN y.f x.f=(decide (y.f.kind=11)&&(y.f.target==x.f.key)&&(y.f.ins==x.f.ins)&&decide (y.f.day≤x.f.day)&&decide (y.f.choice<x.f.options.length))):=rfl;have HOT:Hid (∀i,bN y.f x.f=false→bL (aH8 fs i (aIf y.f)) x.f=bL fs x.f):=fun i h=>aIn i h
  have HCO:Hid (∀gs,aL gs x.f=if dF gs≠0∨dQ x.f≠0 then 1 else 0):=fun gs=>rfl
  have HCV:Hid (∀gs hs,dF gs=0→dF hs=0→dQ x.f=0→bL gs x.f=bL hs x.f→aL gs x.f=0∧aL hs x.f=0∧bC gs x.f=bC hs x.f):=fun gs hs h1 h2 h3 h4=>by
   have e1:aL gs x.f=0:=by unfold aL;rw[if_neg (by simp[h1,h3])]
   have e2:aL hs x.f=0:=by unfold aL;rw[if_neg (by simp[h2,h3])]
   refine⟨e1,e2,?_⟩;unfold bC;rw[e1,e2,if_neg (by decide),if_neg (by decide)];unfold eZ;rw[h4]
  have HC0:Hid (∀W,Below w.heap.size w W→Calls Tryz.prog 12 #[.slice a xs.length c,.agg fc] W fun e w'=>e=.returned (.tuple #[.int .i64 (bC fs x.f),.int .i64 (aL fs x.f)])∧Below W.heap.size W w'):=fun W hb=>by
   rw[hfs];exact HCH.out xs a c W hb (HV.out.below hb)
  clear HR HF HFX HFY HSM HV HXO HYO HTX HTY HE hfs HBX HBY HFC HYA HCO;have hky:∃ky,ky=y.f.key:=⟨_,rfl⟩
  obtain⟨xe,hxe⟩:∃xe,xe=dQ x.f:=⟨_,rfl⟩
  obtain⟨ye,hye⟩:∃ye,ye=bY y.f:=⟨_,rfl⟩
  obtain⟨ve,hve⟩:∃ve,ve=dF fs:=⟨_,rfl⟩
  obtain⟨yk,hyk⟩:∃yk,yk=y.f.cancelled:=⟨_,rfl⟩
  rw[←hxe] at HXK HCV;rw[←hye] at HFK HAF;rw[←hve] at HRC HAF;rw[←hyk] at HYC HAF;have HVE:=Hd hve;clear hxe hye hve hyk hky;go_wp2_with (refine gV (by rfl) 30 _ rfl w.heap.size rfl 30 fc (0,0) _ HX2.out.2 Tryz.underlying30 rfl HSX.out ?_;simp only[pS]);refine(HXK.out _ HB2.out).mono ?_;rintro e w3 ⟨rfl,hb⟩;have HB3:=Hd (aA HB2.out hb);have HX3:=Hd (HX2.out.below hb);have HY3:=Hd (HY2.out.below hb);clear hb HB2 HX2 HY2 HXK
  by_cases h1:xe=0
  case neg =>
   have h1':(xe==0)=false:=by simpa using h1
   go_wp2_with fail;refine(HAW.out _ HB3.out).mono ?_;rintro e wz ⟨rfl,hb⟩;go_wp2;go_ret;exact⟨rfl,aA HB3.out hb⟩
  subst h1;go_wp2_with fail;refine(HRC.out _ HB3.out).mono ?_;rintro e w4 ⟨rfl,hb⟩;have HB4:=Hd (aA HB3.out hb);have HX4:=Hd (HX3.out.below hb);have HY4:=Hd (HY3.out.below hb);clear hb HB3 HX3 HY3 HRC
  by_cases h2:ve=0
  case neg =>
   have h2':(ve==0)=false:=by simpa using h2
   go_wp2_with fail;refine(HAW.out _ HB4.out).mono ?_;rintro e wz ⟨rfl,hb⟩;go_wp2;go_ret;exact⟨rfl,aA HB4.out hb⟩
  subst h2;go_wp2_with (refine gV (by rfl) 30 _ rfl (w.heap.size+1) rfl 30 yc (0,0) _ HY4.out.2 Tryz.underlying30 rfl HSY.out ?_;simp only[pS]);refine(HFK.out _ HB4.out).mono ?_;rintro e w5 ⟨rfl,hb⟩;have HB5:=Hd (aA HB4.out hb);have HX5:=Hd (HX4.out.below hb);have HY5:=Hd (HY4.out.below hb);clear hb HB4 HX4 HY4 HFK
  by_cases h3:ye=0
  case neg =>
   have h3':(ye==0)=false:=by simpa using h3
   go_wp2_with fail;refine(HAW.out _ HB5.out).mono ?_;rintro e wz ⟨rfl,hb⟩;go_wp2;go_ret;exact⟨rfl,aA HB5.out hb⟩
  subst h3;have y2:=(HY5.out.cell 2).trans HYC.out.2.1;cases yk with
  |true =>
   go_wp2_with fail;refine(HAW.out _ HB5.out).mono ?_;rintro e wz ⟨rfl,hb⟩;go_wp2;go_ret;exact⟨rfl,aA HB5.out hb⟩
  |false =>
   have y0:=(HY5.out.cell 0).trans HYC.out.1;go_wp2_with fail;refine(HFI.out _ HB5.out).mono ?_;rintro e w6 ⟨rfl,hb⟩;have HB6:=Hd (aA HB5.out hb);have HX6:=Hd (HX5.out.below hb);have HY6:=Hd (HY5.out.below hb);clear hb HB5 HX5 HY5 HFI y0 y2;unfold qN;cases hfk:lT fs y.f.key with
   |some k =>
    go_wp2_with fail;refine(HAW.out _ HB6.out).mono ?_;rintro e wz ⟨rfl,hb⟩;go_wp2;go_ret;exact⟨rfl,aA HB6.out hb⟩
   |none =>
    have HRE:=Hd (HNO.out hfk);have y3:=(HY6.out.cell 3).trans HYC.out.2.2.1;have y4:=(HY6.out.cell 4).trans HYC.out.2.2.2.1;have y5:=(HY6.out.cell 5).trans HYC.out.2.2.2.2.1;have y8:=(HY6.out.cell 8).trans HYC.out.2.2.2.2.2.1;have y20:=(HY6.out.cell 20).trans HYC.out.2.2.2.2.2.2;have x0:=(HX6.out.cell 0).trans HXC.out.1;have x3:=(HX6.out.cell 3).trans HXC.out.2.1;have x5:=(HX6.out.cell 5).trans HXC.out.2.2.1;have x19:=(HX6.out.cell 19).trans HXC.out.2.2.2;clear HNO hfk HXC HYC;have HAF2:=Hd (HAF.out (by trivial) (by trivial) (by trivial));have HCV2:Hid (∀i zs,List.map aF.f zs=aH8 fs i (aIf y.f)→dF (List.map aF.f zs)=0→bN y.f x.f=false→aL fs x.f=0∧aL (List.map aF.f zs) x.f=0∧bC fs x.f=bC (List.map aF.f zs) x.f):=fun i zs h1 h2 h3=>HCV.out _ _ HVE.out.symm h2 (by trivial) (by rw[h1];exact(HOT.out i h3).symm)
    clear HAF HCV HOT HVE;obtain⟨el,hel⟩:∃el,el=bN y.f x.f:=⟨_,rfl⟩
    rw[←hel] at HEL HCV2;rw[HRE.out] at HAF2;clear hel HRE;generalize bC fs x.f=cv at *;generalize aL fs x.f=er at *;generalize y.f.kind=kd at *;generalize y.f.target=tg at *;generalize y.f.ins=yi at *;generalize y.f.choice=ych at *;generalize y.f.day=yd at *;generalize x.f.ins=xi at *;generalize x.f.day=xd at *;generalize x.f.options.length=ol at *;generalize hxk:x.f.key=xk at *;clear hxk;have hcs:(kd==11)=false∨kd=11∧(tg==xk)=false∨kd=11∧(tg==xk)=true∧(yi==xi)=false∨kd=11∧(tg==xk)=true∧(yi==xi)=true∧¬ ych<(ol:Int)∨kd=11∧(tg==xk)=true∧(yi==xi)=true∧ych<(ol:Int)∧¬ yd≤xd∨kd=11∧(tg==xk)=true∧(yi==xi)=true∧ych<(ol:Int)∧yd≤xd:=by
     by_cases c1:kd=11
     ·cases c2:(tg==xk)
      ·simp[c1]
      ·cases c3:(yi==xi)
       ·simp[c1]
       ·by_cases c4:ych<(ol:Int)
        ·by_cases c5:yd≤xd <;> simp[c1,c4,c5]
        ·simp[c1,c4]
     ·simp[c1]
    rcases hcs with c1|⟨c1,c2⟩|⟨c1,c2,c3⟩|⟨c1,c2,c3,c4⟩|⟨c1,c2,c3,c4,c5⟩|⟨c1,c2,c3,c4,c5⟩
    case inr.inr.inr.inr.inr =>
     subst c1;go_wp2_with fail;refine(HAW.out _ HB6.out).mono ?_;rintro e wz ⟨rfl,hb⟩;go_wp2;go_ret;exact⟨rfl,aA HB6.out hb⟩
    all_goals
     have HEF:Hid (el=false):=by
      show _=_;rw[HEL.out]
      first|simp[c5]|simp[c4]|simp[c3]|simp[c2]|(have c1':¬ kd=11:=(by simpa using c1);simp[c1'])
     try subst c1
     clear HEL;go_wp2_with (refine wpList_load_row rfl 30 _ rfl w.heap.size rfl 30 fc (0,0) _ HX6.out.2 Tryz.underlying30 rfl HSX.out ?_;simp only[pS]);refine(HC0.out _ HB6.out).mono ?_;rintro e w7 ⟨rfl,hb⟩;have HB7:=Hd (aA HB6.out hb);have HX7:=Hd (HX6.out.below hb);have HY7:=Hd (HY6.out.below hb);clear hb HB6 HX6 HY6 HC0 x0 x3 x5 x19 y3 y4 y5 y8 y20;go_wp2_with (refine wpList_load_row rfl 30 _ rfl (w.heap.size+1) rfl 30 yc (0,0) _ HY7.out.2 Tryz.underlying30 rfl HSY.out ?_;simp only[pS]);refine(HAF2.out _ HB7.out).mono ?_;rintro e w8 ⟨⟨i,zs,a',c',_,hz,rfl,hvz,hvc⟩,hb⟩;have HB8:=Hd (aA HB7.out hb);have HX8:=Hd (HX7.out.below hb);have HY8:=Hd (HY7.out.below hb);clear hb HB7 HX7 HY7 HAF2;obtain⟨e1,e2,e3⟩:=HCV2.out i zs hz hvc HEF.out;have HC9:Hid (Calls Tryz.prog 12 #[.slice a' zs.length c',.agg fc] w8 fun e w'=>e=.returned (.tuple #[.int .i64 cv,.int .i64 0])∧Below w8.heap.size w8 w'):=by
      have h:=HCH.out zs a' c' w8 HB8.out hvz;rw[e2,←e3] at h;exact h
     subst e1;clear HCV2 HCH hz hvz hvc e2 e3 HEF;go_wp2_with (refine wpList_load_row rfl 30 _ rfl w.heap.size rfl 30 fc (0,0) _ HX8.out.2 Tryz.underlying30 rfl HSX.out ?_;simp only[pS]);refine HC9.out.mono ?_;rintro e w9 ⟨rfl,hb⟩;have HB9:=Hd (aA HB8.out hb);have HX9:=Hd (HX8.out.below hb);have HY9:=Hd (HY8.out.below hb);clear hb HB8 HX8 HY8 HC9;go_wp2_with fail;refine(HAW.out _ HB9.out).mono ?_;rintro e wz ⟨rfl,hb⟩;go_wp2;go_ret;exact⟨rfl,aA HB9.out hb⟩
end Go.Proofs.YtbcebibkpfklnaaGreatDoor
