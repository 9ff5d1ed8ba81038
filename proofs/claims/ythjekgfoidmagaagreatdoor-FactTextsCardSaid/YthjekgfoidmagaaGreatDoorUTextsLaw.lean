/- FactTextsLaw -/
import Derived.Test.YthjekgfoidmagaaGreatDoorUTexts
import Derived.Test.YthjekgfoidmagaaGreatDoorUMoreT
set_option maxHeartbeats 16000000
set_option maxRecDepth 100000
namespace Go.Proofs.YthjekgfoidmagaaGreatDoor
open Go.Proofs.Tryz
open Go Go.RowKit Num
attribute [local go_sem] aV
theorem bXw(x:aF)(s:List UInt8)(w:World)(hE:iE w)(hbx:x.f.Behind w x.pa x.oa)(hfx:x.fits):
  Calls prog 8 #[.agg x.arr,.string ⟨s.toArray⟩] w fun e w'=>e=.returned (.bool true)/\Below w.heap.size w w':=by
 obtain⟨wA,hwA⟩:∃wA,wA=w.alloc (.cells x.arr 29):=⟨_,rfl⟩
 have sA:wA.heap.size=w.heap.size+1:=by rw[hwA,World.size_alloc]
 have bA:Below w.heap.size w wA:=by rw[hwA];exact aB _ _
 have k0:aP wA w.heap.size x.arr 29:=by rw[hwA];exact aP.new0 _ _ _
 have K0:=Hd k0;have HB:=Hd bA;have HE:Hid (∀W,Below w.heap.size w W->iE W):=fun W hb=>hE.below hb
 have HG:=Hd (bTl x wA (hbx.below bA) hfx);have HRUN:=Hd (bTt x wA);have HAW:Hid (∀W,Below w.heap.size w W->Calls prog 11 #[] W fun e w'=>e=.returned (.bool true)/\Below W.heap.size W w'):=fun W hb=>bLi W (hE.below hb)
 have HCX:Hid (x.f.small->∀W,Below w.heap.size w W->Calls prog 12 #[.agg x.arr] W fun e w'=>e=.returned (.int .i64 (bY x.f))/\Below W.heap.size W w'):=fun ht W hb=>rT x.f x.pa x.oa x.pc x.oc W (hE.below hb) ht hfx.picks (hbx.below hb)
 have HEX:Hid (x.f.small->∀W,Below w.heap.size w W->Calls prog 21 #[.agg x.arr] W fun e w'=>e=.returned (.tuple #[.string ⟨(bWf x.f).toArray⟩,.int .i64 (bY x.f)])/\Below W.heap.size W w'):=fun ht W hb=>bXi x hfx ht W (hE.below hb) (hbx.below hb)
 have HDB:Hid (x.f.small->bY x.f=0->∀W,Below w.heap.size w W->Calls prog 23 #[.string ⟨(bWf x.f).toArray⟩] W fun e w'=>(∃bc,e=.returned (.tuple #[.agg bc,.int .i64 0])/\bX8 bc/\∀W',Below w'.heap.size w' W'->Below w.heap.size w W'->Calls prog 19 #[.agg bc,.agg x.arr] W' fun e2 w2=>e2=.returned (.bool true)/\Below W'.heap.size W' w2)/\Below W.heap.size W w'):=fun ht he W hb=>by
  unfold bWf;rw[if_pos he];refine(bXq x hfx ht he W (hE.below hb)).mono ?_;rintro e w' ⟨⟨bc,e1,e2,e3⟩,hb'⟩;exact⟨⟨bc,e1,e2,fun W' h1 h2=>e3 W' h1 (hbx.below h2)⟩,hb'⟩
 have HCO:Hid (bY x.f=0->∀W,Calls prog 28 #[.string ⟨(bWf x.f).toArray⟩,.string ⟨#[10]⟩] W fun e w'=>e=.returned (.bool false)/\Below W.heap.size W w'):=fun he W=>by
  unfold bWf;rw[if_pos he];exact bXa _ (bTv he (bWl hfx).2.2.2) W
 have HXB:Hid (bY x.f≠0->(bWf x.f).toArray=#[]):=fun he=>by unfold bWf;rw[if_neg he]
 have HDS:Hid (s.length<=400->∀W,Below w.heap.size w W->Calls prog 23 #[.string ⟨s.toArray⟩] W fun e w'=>(∃yc,e=.returned (.tuple #[.agg yc,.int .i64 (dec s).2])/\bX1 s (dec s).2 yc w')/\Below W.heap.size W w'):=fun hs W hb=>bXp s hs W (hE.below hb)
 have HSX:Hid ((prog.info? 29).map (·.size)=some x.arr.size):=aY x.f x.pa x.oa x.pc x.oc;have HSML:Hid (x.f.tight->x.f.small):=fun h=>h.small
 clear hE hbx hfx bA k0 sA;generalize(bWf x.f).toArray=ex at *;generalize x.arr=xc at *;generalize bY x.f=cx at *;generalize x.f.tight=PT at *;generalize x.f.small=PX at *;generalize(dec s).2=hs at *;clear x;go_enter func8,ntmps8;have A1:Hid (w.alloc (.cells xc 29)=wA):=hwA.symm;clear hwA;go_wp2_with (first
  |(rw[A1.out];refine wpList_load_row rfl 29 _ rfl w.heap.size rfl 29 xc (0,0) _ K0.out.2 underlying29 rfl HSX.out ?_)
  |(refine bN8 rfl 47 1 _ rfl #[(0,.agg xc)] _ (by first|rfl|kernel_rfl) HRUN.out ?_))
 refine HG.out.mono ?_;rintro e w1 ⟨⟨g,rfl,hg⟩,hb⟩;have HB1:=Hd (HB.out.trans (hb.mono HB.out.size));have K0b:=Hd (K0.out.below hb);clear hb K0 HB HRUN HG A1;cases g with
 |true =>
  clear HCX HEX HDB HCO HXB HDS HSML hg;go_wp2_with fail;refine(HAW.out _ HB1.out).mono ?_;rintro e wa ⟨rfl,hb⟩;go_wp2;go_ret;exact⟨rfl,aA HB1.out hb⟩
 |false =>
  have px:=HSML.out (hg rfl);clear HSML hg;have HCX2:=Hd (HCX.out px);have HEX2:=Hd (HEX.out px);have HDB2:=Hd (HDB.out px);clear HCX HEX HDB
  by_cases h400:(400:Int)<(s.length:Int)
  ·clear HCX2 HEX2 HDB2 HCO HXB HDS;go_wp2_with fail;refine(HAW.out _ HB1.out).mono ?_;rintro e wa ⟨rfl,hb⟩;go_wp2;go_ret;exact⟨rfl,aA HB1.out hb⟩
  have HDS2:=Hd (HDS.out (by omega));clear HDS;go_wp2_with (refine wpList_load_row rfl 29 _ rfl w.heap.size rfl 29 xc (0,0) _ K0b.out.2 underlying29 rfl HSX.out ?_);refine(HEX2.out _ HB1.out).mono ?_;rintro e w2 ⟨rfl,hb⟩;have HB2:=Hd (HB1.out.trans (hb.mono HB1.out.size));have K0c:=Hd (K0b.out.below hb);clear hb K0b HB1 HEX2 h400;go_wp2_with (refine wpList_load_row rfl 29 _ rfl w.heap.size rfl 29 xc (0,0) _ K0c.out.2 underlying29 rfl HSX.out ?_);refine(HCX2.out _ HB2.out).mono ?_;rintro e w3 ⟨rfl,hb⟩;have HB3:=Hd (HB2.out.trans (hb.mono HB2.out.size));have K0d:=Hd (K0c.out.below hb);clear hb K0c HB2 HCX2
  by_cases hx:cx=0
  case' pos =>
   subst hx;have HDB3:=Hd (HDB2.out rfl);have HCO2:=Hd (HCO.out rfl);clear HDB2 HCO HXB;go_wp2_with fail;refine(HDB3.out _ HB3.out).mono ?_;rintro e w4 ⟨⟨bc,rfl,hfc,hsame⟩,hb⟩;have HB4:=Hd (HB3.out.trans (hb.mono HB3.out.size));have K0e:=Hd (K0d.out.below hb);have HFC:=Hd hfc;have HSM:=Hd hsame;have KZ:=Hd (bFz w4);have BZ:=Hd (aB w4 Z13);unfold Z13 at KZ BZ;clear hb K0d HB3 HDB3 hfc hsame;go_wp2_with (first
    |(refine bC5 rfl 29 _ _ rfl w4.heap.size bc rfl rfl KZ.out HFC.out.sz (by show _=_;rw[HFC.out.s21];rfl) HFC.out.one ?_;intro w5 kx bx gr;have B5:=Hd (BZ.out.trans (bx _ (Nl _)));have KB:=Hd kx;have K0f:=Hd (K0e.out.below B5.out);have HB5:=Hd (HB4.out.trans (B5.out.mono HB4.out.size));clear kx bx gr KZ BZ)
    |(refine bFn (by rfl) 29 _ rfl w4.heap.size rfl 29 bc (0,0) _ KB.out.2 underlying29 rfl HFC.out.sz ?_)
    |(refine bFn (by rfl) 29 _ rfl w.heap.size rfl 29 xc (0,0) _ K0f.out.2 underlying29 rfl HSX.out ?_))
   refine(HSM.out _ B5.out HB5.out).mono ?_;rintro e w6 ⟨rfl,hb⟩;have HB6:=Hd (HB5.out.trans (hb.mono HB5.out.size));clear hb HSM KB K0f HB5 B5 HB4 K0e HFC;go_wp2_with fail;refine(HCO2.out _).mono ?_;rintro e w7 ⟨rfl,hb⟩;have HBZ:=Hd (HB6.out.trans (hb.mono HB6.out.size));clear hb HB6 HCO2;go_wp2_with fail
  case' neg =>
   have hx1:(cx==0)=false:=by simpa using hx
   have hxe:=HXB.out hx;subst hxe;have HBZ:=Hd HB3.out;clear HDB2 HCO HXB HB3 K0d;go_wp2_with fail
  all_goals
   refine(HDS2.out _ HBZ.out).mono ?_;rintro e w8 ⟨⟨yc,rfl,hY⟩,hb⟩;have HB8:=Hd (HBZ.out.trans (hb.mono HBZ.out.size));have HFY:=Hd hY.fc;have HYB:=Hd hY.bad;have HYE:=Hd hY.enc;have HYC:=Hd hY.chk;have KZ:=Hd (bFz w8);have BZ:=Hd (aB w8 Z13);unfold Z13 at KZ BZ;clear hb HDS2 HBZ hY
   by_cases hh:hs=0
   case' pos =>
    subst hh;have HYE2:=Hd (HYE.out rfl);have HYC2:=Hd (HYC.out rfl);clear HYB HYE HYC;go_wp2_with (first
     |(refine bC5 rfl 29 _ _ rfl w8.heap.size yc rfl rfl KZ.out HFY.out.sz (by show _=_;rw[HFY.out.s21];rfl) HFY.out.one ?_;intro w9 kx bx gr;have B9:=Hd (BZ.out.trans (bx _ (Nl _)));have KY:=Hd kx;have HB9:=Hd (HB8.out.trans (B9.out.mono HB8.out.size));clear kx bx gr KZ BZ)
     |(refine wpList_load_row rfl 29 _ rfl w8.heap.size rfl 29 yc (0,0) _ KY.out.2 underlying29 rfl HFY.out.sz ?_))
    refine(HYE2.out _ (HE.out _ HB9.out) B9.out).mono ?_;rintro e wa ⟨rfl,hb⟩;have HBa:=Hd (HB9.out.trans (hb.mono HB9.out.size));have Ba:=Hd (B9.out.trans (hb.mono B9.out.size));have KYa:=Hd (KY.out.below hb);clear hb HB9 B9 KY HYE2;go_wp2_with (refine bFn (by rfl) 29 _ rfl w8.heap.size rfl 29 yc (0,0) _ KYa.out.2 underlying29 rfl HFY.out.sz ?_);refine(HYC2.out _ (HE.out _ HBa.out) Ba.out).mono ?_;rintro e wb ⟨rfl,hb⟩;have HBb:=Hd (HBa.out.trans (hb.mono HBa.out.size));clear hb HBa Ba KYa HYC2;go_wp2_with fail;refine(HAW.out _ HBb.out).mono ?_;rintro e wc ⟨rfl,hb⟩;go_wp2;go_ret;exact⟨rfl,aA HBb.out hb⟩
   case' neg =>
    have hh1:(hs==0)=false:=by simpa using hh
    have HYB2:=Hd (HYB.out hh);clear HYB HYE HYC;unfold bXz at HYB2;go_wp2_with (first
     |(refine bC5 rfl 29 _ _ rfl w8.heap.size yc rfl rfl KZ.out HFY.out.sz (by show _=_;rw[HFY.out.s21];rfl) HFY.out.one ?_;intro w9 kx bx gr;have B9:=Hd (BZ.out.trans (bx _ (Nl _)));have KY:=Hd kx;have HB9:=Hd (HB8.out.trans (B9.out.mono HB8.out.size));clear kx bx gr KZ BZ)
     |(refine wpList_load_row rfl 29 _ rfl w8.heap.size rfl 29 yc (0,0) _ KY.out.2 underlying29 rfl HFY.out.sz ?_))
    refine(HYB2.out _ B9.out).mono ?_;rintro e wa ⟨rfl,hb⟩;have HBa:=Hd (HB9.out.trans (hb.mono HB9.out.size));clear hb HB9 B9 KY HYB2;go_wp2_with fail;refine(HAW.out _ HBa.out).mono ?_;rintro e wb ⟨rfl,hb⟩;go_wp2;go_ret;exact⟨rfl,aA HBa.out hb⟩
end Go.Proofs.YthjekgfoidmagaaGreatDoor
