/- FactFieldsLaw -/
import Derived.Test.YthjekgfoidmagaaGreatDoorUMoreW
set_option maxHeartbeats 16000000
set_option maxRecDepth 100000
namespace Go.Proofs.YthjekgfoidmagaaGreatDoor
open Go.Proofs.Tryz
open Go Go.RowKit Num
theorem bU0{f:aE}(h:f.small){i:Nat}(hi:bH7 f i):(bF7 f i).small:=by
 rcases bQ9 hi with rfl|rfl|rfl|rfl|rfl|rfl|rfl|rfl|rfl|rfl|rfl
 ·exact { h with ins:=(Nat.le_of_ble_eq_true rfl) }
 ·exact { h with other:=(Nat.le_of_ble_eq_true rfl) }
 ·exact { h with cur:=(Nat.le_of_ble_eq_true rfl) }
 ·exact { h with target:=(Nat.le_of_ble_eq_true rfl) }
 ·exact { h with q:=(Nat.le_of_ble_eq_true rfl) }
 ·exact { h with amt:=(Nat.le_of_ble_eq_true rfl) }
 ·exact { h with fee:=(Nat.le_of_ble_eq_true rfl) }
 ·exact { h with ratio:=⟨Nat.le_of_ble_eq_true rfl,Nat.le_of_ble_eq_true rfl⟩ }
 ·exact { h with picks:=(Nat.le_of_ble_eq_true rfl),pick:=fun p hp=>(by
   have hp:p∈[(⟨[97,47,49],[49]⟩:bJ)]:=hp;obtain rfl:=List.mem_singleton.1 hp;exact⟨by decide,by decide⟩) }
 ·exact { h with options:=(Nat.le_of_ble_eq_true rfl),option:=fun o ho=>(by
   have ho:o∈[(⟨[],bD4,bS5,bD4⟩:eJ)]:=ho;obtain rfl:=List.mem_singleton.1 ho;exact⟨by decide,⟨by decide,by decide⟩,⟨by decide,by decide⟩,⟨by decide,by decide⟩⟩) }
 ·exact { h with key:=h.key }
theorem bUs{x:aF}(h:x.fits):-9223372036854775808<=x.f.stamp/\x.f.stamp<=9223372036854775807:=by
 have h1:=h.stamp;simp[Lit.wf,IntKind.min,IntKind.max,IntKind.signed,IntKind.bits] at h1;omega
def bRk(f:aE):aE:={ bDh with key:=f.key,stamp:=f.stamp,cancelled:=true }
theorem bUy{f:aE}(h:f.small):(bRk f).small:=⟨h.key,Nat.le_of_ble_eq_true rfl,Nat.le_of_ble_eq_true rfl,Nat.le_of_ble_eq_true rfl,Nat.le_of_ble_eq_true rfl,Nat.le_of_ble_eq_true rfl,Nat.le_of_ble_eq_true rfl,Nat.le_of_ble_eq_true rfl,⟨Nat.le_of_ble_eq_true rfl,Nat.le_of_ble_eq_true rfl⟩,⟨Nat.le_of_ble_eq_true rfl,Nat.le_of_ble_eq_true rfl⟩,⟨Nat.le_of_ble_eq_true rfl,Nat.le_of_ble_eq_true rfl⟩,Nat.le_of_ble_eq_true rfl,(fun p hp=>by cases hp),Nat.le_of_ble_eq_true rfl,(fun o ho=>by cases ho)⟩
theorem bUd{f:aE}(h:f.small)(s:Int):({ f with stamp:=s }:aE).small:={ h with }
theorem bUr{f:aE}(h:f.small):({ f with cancelled:=true }:aE).small:={ h with }
def bRy(x:aF):aF:={ x with f:={ x.f with cancelled:=true } }
def bT6(x:aF):aF:={ x with f:={ x.f with stamp:=-1-x.f.stamp } }
theorem bT1(x:aF)(w:World)(hE:iE w)(hbx:x.f.Behind w x.pa x.oa)(hfx:x.fits):
  Calls prog 6 #[.agg x.arr] w fun e w'=>e=.returned (.bool true)/\Below w.heap.size w w':=by
 obtain⟨wA,hwA⟩:∃wA,wA=w.alloc (.cells x.arr 29):=⟨_,rfl⟩
 have bA:Below w.heap.size w wA:=by rw[hwA];exact aB _ _
 have K0:Hid (aP wA w.heap.size x.arr 29):=by show aP _ _ _ _;rw[hwA];exact aP.new0 _ _ _
 have HB:=Hd bA;have HG:=Hd (bTl x wA (hbx.below bA) hfx);have HRUN:=Hd (bTt x wA);have HAW:Hid (∀W,Below w.heap.size w W->Calls prog 11 #[] W fun e w'=>e=.returned (.bool true)/\Below W.heap.size W w'):=fun W hb=>bLi W (hE.below hb)
 have HCK:Hid (x.f.tight->∀W,Below w.heap.size w W->Calls prog 12 #[.agg x.arr] W fun e w'=>e=.returned (.int .i64 (bY x.f))/\Below W.heap.size W w'):=fun ht W hb=>rT x.f x.pa x.oa x.pc x.oc W (hE.below hb) ht.small hfx.picks (hbx.below hb)
 have HCY:Hid (x.f.tight->bY x.f=0->∀(y:aF) W,Below w.heap.size w W->(∃i,bH7 x.f i/\y.f=bF7 x.f i)->y.f.picks.length<=y.pc->y.f.Behind W y.pa y.oa->Calls prog 12 #[.agg y.arr] W fun e w'=>e=.returned (.int .i64 1)/\Below W.heap.size W w'):=fun ht h0 y W hb ⟨i,hi,hy⟩ hc hB=>by
  have h:=rT y.f y.pa y.oa y.pc y.oc W (hE.below hb) (by rw[hy];exact bU0 ht.small hi) hc hB;rw[hy,bTo h0 hi,<-hy] at h;exact h
 have HCV:Hid (x.f.tight->bY x.f=0->∀W,Below w.heap.size w W->Calls prog 12 #[.agg ((bRk x.f).cells none 0 none 0)] W fun e w'=>e=.returned (.int .i64 0)/\Below W.heap.size W w'):=fun ht h0 W hb=>by
  have h:=rT (bRk x.f) none none 0 0 W (hE.below hb) (bUy ht.small) (Nl _) ⟨.inl rfl,.inl rfl⟩;rw[show bY (bRk x.f)=0 from bTg h0] at h;exact h
 have HCC:Hid (x.f.tight->bY x.f=0->x.f.cancelled=false->∀W,Below w.heap.size w W->Calls prog 12 #[.agg (bRy x).arr] W fun e w'=>e=.returned (.int .i64 1)/\Below W.heap.size W w'):=fun ht h0 hc W hb=>by
  have h:=rT (bRy x).f x.pa x.oa x.pc x.oc W (hE.below hb) (bUr ht.small) hfx.picks (hbx.below hb);rw[show bY (bRy x).f=1 from bSw h0 hc] at h;exact h
 have HCN:Hid (x.f.tight->bY x.f=0->∀W,Below w.heap.size w W->Calls prog 12 #[.agg (bT6 x).arr] W fun e w'=>e=.returned (.int .i64 2)/\Below W.heap.size W w'):=fun ht h0 W hb=>by
  have h:=rT (bT6 x).f x.pa x.oa x.pc x.oc W (hE.below hb) (bUd ht.small _) hfx.picks (hbx.below hb);rw[show bY (bT6 x).f=2 from bTh h0] at h;exact h
 have HMO:Hid (∀W,Below w.heap.size w W->Calls prog 27 #[.agg x.arr] W fun e w'=>bU6 x W w' e):=fun W hb=>bU4 x W (hbx.below hb) hfx.picks
 have HSX:Hid ((prog.info? 29).map (·.size)=some x.arr.size):=aY x.f x.pa x.oa x.pc x.oc;have HSS:Hid (∀c:Array Value,c.size=21->(prog.info? 29).map (·.size)=some c.size):=fun c=>bJy
 have HX:Hid (x.arr[0]?=some (.string ⟨x.f.key.toArray⟩)/\x.arr[1]?=some (.int .i64 x.f.stamp)/\x.arr[2]?=some (.bool x.f.cancelled)):=⟨rfl,rfl,rfl⟩
 have HXO:Hid (x.arr.size=21/\x.arr.all (·.oneCell')=true):=⟨rfl,by unfold aF.arr aE.cells;simp[Value.oneCell']⟩
 have HCA:Hid ((bRy x).arr=x.arr.setIfInBounds 2 (.bool true)/\(bT6 x).arr=x.arr.setIfInBounds 1 (.int .i64 (-1-x.f.stamp))):=⟨rfl,rfl⟩
 have HCS:Hid ((bRy x).arr.size=21/\(bT6 x).arr.size=21):=⟨rfl,rfl⟩
 have HVD:Hid ((bRk x.f).cells none 0 none 0=#[.string ⟨x.f.key.toArray⟩,.int .i64 x.f.stamp,.bool true,.int .i64 0,.int .i64 0,.string ⟨#[]⟩,.string ⟨#[]⟩,.string ⟨#[]⟩,.string ⟨#[]⟩,.string ⟨#[]⟩,.string ⟨#[]⟩,.string ⟨#[]⟩,.string ⟨#[]⟩,.string ⟨#[]⟩,.string ⟨#[]⟩,.string ⟨#[]⟩,.string ⟨#[]⟩,.string ⟨#[]⟩,.slice none 0 0,.slice none 0 0,.int .i64 0]):=rfl;have HVO:Hid (((bRk x.f).cells none 0 none 0).size=21/\((bRk x.f).cells none 0 none 0).all (·.oneCell')=true):=⟨rfl,by rw[HVD.out];simp[Value.oneCell']⟩
 have HST:Hid (bY x.f=0->wrap64 (-1-x.f.stamp) = -1-x.f.stamp):=fun h0=>by
  have h1:=(bP4 h0).2;have h2:=bUs hfx;unfold wrap64;omega
 clear hE hbx hfx bA;obtain⟨pt,hpt⟩:∃pt,pt=x.f.tight:=⟨_,rfl⟩
 rw[<-hpt] at HG HCK HCY HCV HCC HCN;clear hpt;obtain⟨xc,hxc⟩:∃c,c=x.arr:=⟨_,rfl⟩
 rw[<-hxc] at HG HCK HMO HSX HX HXO HCA HRUN K0 hwA ⊢;clear hxc;generalize(bRy x).arr=cc at *;generalize(bT6 x).arr=nc at *;generalize(bRk x.f).cells none 0 none 0=vd at *;obtain⟨f,pa,pc,oa,oc⟩:=x;dsimp only at *;go_enter func6,ntmps6;have A1:Hid (w.alloc (.cells xc 29)=wA):=hwA.symm;clear hwA;go_wp2_with (first
  |(rw[A1.out];refine wpList_load_row rfl 29 _ rfl w.heap.size rfl 29 xc (0,0) _ K0.out.2 underlying29 rfl HSX.out ?_)
  |(refine bN8 rfl 47 1 _ rfl #[(0,.agg xc)] _ (by first|rfl|kernel_rfl) HRUN.out ?_))
 refine HG.out.mono ?_;rintro e w1 ⟨⟨g,rfl,hg⟩,hb⟩;have HB1:=Hd (HB.out.trans (hb.mono HB.out.size));have K0b:=Hd (K0.out.below hb);clear hb K0 HB HRUN HG A1;cases g with
 |true =>
  clear HCK HCY HCV HCC HCN HMO HST;go_wp2_with fail;refine(HAW.out _ HB1.out).mono ?_;rintro e w2 ⟨rfl,hb⟩;go_wp2;go_ret;exact⟨rfl,aA HB1.out hb⟩
 |false =>
  have pt1:=hg rfl;have HCK2:=Hd (HCK.out pt1);have HCY2:=Hd (HCY.out pt1);have HCV2:=Hd (HCV.out pt1);have HCC2:=Hd (HCC.out pt1);have HCN2:=Hd (HCN.out pt1);clear HCK HCY HCV HCC HCN hg pt1;go_wp2_with (refine bFn ?hw 29 _ rfl w.heap.size rfl 29 xc (0,0) _ K0b.out.2 underlying29 rfl HSX.out ?_);refine(HCK2.out _ HB1.out).mono ?_;rintro e w2 ⟨rfl,hb⟩;have HB2:=Hd (HB1.out.trans (hb.mono HB1.out.size));have K0c:=Hd (K0b.out.below hb);clear hb K0b HB1 HCK2
  by_cases h0:bY f=0
  rotate_left
  ·have h01:(bY f==0)=false:=by simpa using h0
   clear HCY2 HCV2 HCC2 HCN2 HMO HST;go_wp2_with fail;refine(HAW.out _ HB2.out).mono ?_;rintro e w3 ⟨rfl,hb⟩;go_wp2;go_ret;exact⟨rfl,aA HB2.out hb⟩
  have HCY3:=Hd (HCY2.out h0);have HCV3:=Hd (HCV2.out h0);have HCC3:=Hd (HCC2.out h0);have HCN3:=Hd (HCN2.out h0);have HST2:=Hd (HST.out h0);clear HCY2 HCV2 HCC2 HCN2 HST;rw[h0];clear h0;go_wp2_with (refine wpList_load_row rfl 29 _ rfl w.heap.size rfl 29 xc (0,0) _ K0c.out.2 underlying29 rfl HSX.out ?_);refine(HMO.out _ HB2.out).mono ?_;rintro e w3 ⟨a,c,ys,rfl,hfs,hys,hyl,hb⟩;have HB3:=Hd (HB2.out.trans (hb.mono HB2.out.size));have K0d:=Hd (K0c.out.below hb);have HFS:=Hd hfs;have HYS:=Hd hys;clear hb K0c HB2 HMO hfs hys;go_wp2_with fail;go_loopw [20] (fun iv wr=>∃k:Nat,k<=ys.length/\iv=.int .i64 (k:Int)/\Hid (Below w3.heap.size w3 wr)) (fun iv _=>ys.length-(intOf iv).toNat)
  case atStart=>exact⟨0,Nat.zero_le _,rfl,Br _ _⟩
  case round =>
   obtain⟨k,hk,rfl,HBr⟩:=hrel
   by_cases hlt:k<ys.length
   ·obtain⟨y,hy⟩:∃y,ys[k]?=some y:=⟨_,Lg hlt⟩
    obtain⟨b,off,rfl,hbl,hc⟩:=HFS.out.1.addr (k:=k) (cs:=y.cells) (by rw[List.getElem?_map,hy];rfl);have HC:Hid (∀i v,y.arr.toList[i]?=some v->wr.cell? ⟨b,off+k*21+i,none⟩=some v):=fun i v hv=>(HBr.out.cell (p:=⟨b,off+k*21+i,none⟩) hbl).trans (hc i v hv)
    have HSY:Hid ((prog.info? 29).map (·.size)=some y.arr.size):=aY y.f y.pa y.oa y.pc y.oc;have HYO:Hid (y.arr.size=21/\y.arr.all (·.oneCell')=true):=⟨rfl,by unfold aF.arr aE.cells;simp[Value.oneCell']⟩
    have HBw:=Hd (HB3.out.trans (HBr.out.mono HB3.out.size));have KZ:=Hd (bFz wr);have BZ:=Hd (aB wr Z13);unfold Z13 at KZ BZ;have HCYk:Hid (∀W,Below wr.heap.size wr W->Calls prog 12 #[.agg y.arr] W fun e w'=>e=.returned (.int .i64 1)/\Below W.heap.size W w'):=fun W hW=>by
     have hym:=List.mem_of_getElem? hy;exact HCY3.out y W (HBw.out.trans (hW.mono HBw.out.size)) (HYS.out y hym).1 (HYS.out y hym).2 (((HFS.out.2 y hym).below HBr.out).below hW)
    clear hc hy;generalize y.arr=yc at *;go_wp2_with (first
     |(refine aM rfl 29 _ rfl b (off+k*21) rfl yc _ HC.out underlying29 rfl HSY.out ?_)
     |(refine bC5 rfl 29 _ _ rfl wr.heap.size yc rfl rfl KZ.out HSY.out (by show _=_;rw[HYO.out.1];rfl) HYO.out.2 ?_;intro w4 kx bx gr;have K4:=Hd kx;have B4:=Hd (BZ.out.trans (bx _ (Nl _)));clear kx bx gr KZ BZ)
     |(refine wpList_load_row rfl 29 _ rfl wr.heap.size rfl 29 yc (0,0) _ K4.out.2 underlying29 rfl HSY.out ?_))
    refine(HCYk.out _ B4.out).mono ?_;rintro e w5 ⟨rfl,hb⟩;have HB5:Hid (Below w3.heap.size w3 w5):=aA (aA HBr.out B4.out) hb;clear hb K4 B4 HBw HCYk HC HSY HYO HBr;have hyl2:=hyl;go_wp2_with fail;go_roundw
    case rel=>exact⟨k+1,by omega,by go_num,HB5⟩
    case measure=>simp[intOf];omega
   ·obtain rfl:k=ys.length:=by omega
    have HB4:=Hd (HB3.out.trans (HBr.out.mono HB3.out.size));have K0e:=Hd (K0d.out.below HBr.out);clear HBr HB3 K0d HCY3 HFS HYS;have c0:=(K0e.out.cell 0).trans HX.out.1;have c1:=(K0e.out.cell 1).trans HX.out.2.1;have KZ:=Hd (bFz wr);have BZ:=Hd (aB wr Z13);unfold Z13 at KZ BZ;go_wp2_with (first
     |(refine bC5 rfl 29 _ _ rfl wr.heap.size vd rfl (by rw[HVD.out];rfl) KZ.out (HSS.out _ HVO.out.1) (by show _=_;rw[HVO.out.1];rfl) HVO.out.2 ?_;intro w4 kx bx gr;have K4:=Hd kx;have B4:=Hd (BZ.out.trans (bx _ (Nl _)));clear kx bx gr KZ BZ)
     |(refine wpList_load_row rfl 29 _ rfl wr.heap.size rfl 29 vd (0,0) _ K4.out.2 underlying29 rfl (HSS.out _ HVO.out.1) ?_))
    clear c0 c1;have HB5:=Hd (HB4.out.trans (B4.out.mono HB4.out.size));refine(HCV3.out _ HB5.out).mono ?_;rintro e w5 ⟨rfl,hb⟩;have HB6:=Hd (HB5.out.trans (hb.mono HB5.out.size));have K0f:=Hd ((K0e.out.below B4.out).below hb);clear hb K4 B4 HB4 HB5 K0e HCV3;have KZ6:=Hd (bFz w5);have BZ6:=Hd (aB w5 Z13);unfold Z13 at KZ6 BZ6;cases hcc:f.cancelled with
    |true =>
     rw[hcc] at HX;go_upto_region 16 with(first
      |(refine wpList_load_row rfl 29 _ rfl w.heap.size rfl 29 xc (0,0) _ K0f.out.2 underlying29 rfl HSX.out ?_)
      |(refine bC5 rfl 29 _ _ rfl w5.heap.size xc rfl rfl KZ6.out HSX.out (by show _=_;rw[HXO.out.1];rfl) HXO.out.2 ?_;intro w6 kx bx gr;have B6:=Hd (BZ6.out.trans (bx _ (Nl _)));have cX:=(kx.cell 2).trans HX.out.2.2;have fX:=aR kx.2 2;have K6:Hid (aP (w6.setCell ⟨w5.heap.size,2,none⟩ (.bool true)) w5.heap.size cc 29):=(by show aP _ _ _ _;rw[HCA.out.1];exact bGb kx);have B7:Hid (Below w5.heap.size w5 (w6.setCell ⟨w5.heap.size,2,none⟩ (.bool true))):=B6.out.setCell (Nl _) _;have K0g:=Hd (K0f.out.below B7.out);have c2:=(K0g.out.cell 2).trans HX.out.2.2;clear kx bx gr KZ6 BZ6))
     clear cX fX c2 K6;have HBz:=Hd (HB6.out.trans (B7.out.mono HB6.out.size));have K0z:=Hd K0g.out;clear B7 B6 HB6 K0f K0g;obtain⟨wz,hwz⟩:∃wz,wz=w6.setCell ⟨w5.heap.size,2,none⟩ (.bool true):=⟨_,rfl⟩
     rw[<-hwz] at HBz K0z ⊢;clear hwz;have KZn:=Hd (bFz wz);have BZn:=Hd (aB wz Z13);unfold Z13 at KZn BZn;have hwr:=HST2.out;go_wp2_with (first
      |(refine wpList_load_row rfl 29 _ rfl w.heap.size rfl 29 xc (0,0) _ K0z.out.2 underlying29 rfl HSX.out ?_)
      |(refine bC5 rfl 29 _ _ rfl (wz).heap.size xc rfl rfl KZn.out HSX.out (by show _=_;rw[HXO.out.1];rfl) HXO.out.2 ?_;intro w8 kx bx gr;have B8:=Hd (BZn.out.trans (bx _ (Nl _)));have c9:=(kx.cell 1).trans HX.out.2.1;have f9:=aR kx.2 1;have c1:=((K0z.out.below B8.out).cell 1).trans HX.out.2.1;have KN:Hid (aP (w8.setCell ⟨(wz).heap.size,1,none⟩ (.int .i64 (-1-f.stamp))) (wz).heap.size nc 29):=(by show aP _ _ _ _;rw[HCA.out.2];exact bGb kx);have BN:Hid (Below (wz).heap.size wz (w8.setCell ⟨(wz).heap.size,1,none⟩ (.int .i64 (-1-f.stamp)))):=B8.out.setCell (Nl _) _;clear kx bx gr KZn BZn)
      |(refine wpList_load_row rfl 29 _ rfl (wz).heap.size rfl 29 nc (0,0) _ KN.out.2 underlying29 rfl (HSS.out _ HCS.out.2) ?_))
     clear c9 f9 c1 hwr;have HB9:=Hd (HBz.out.trans (BN.out.mono HBz.out.size));refine(HCN3.out _ HB9.out).mono ?_;rintro e w10 ⟨rfl,hb⟩;have HB10:=Hd (HB9.out.trans (hb.mono HB9.out.size));clear hb HB9 BN KN B8 HCN3;go_wp2_with fail;refine(HAW.out _ HB10.out).mono ?_;rintro e w11 ⟨rfl,hb⟩;go_wp2;go_ret;exact⟨rfl,aA HB10.out hb⟩
    |false =>
     have HCC4:=Hd (HCC3.out hcc);clear HCC3;rw[hcc] at HX;go_wp2_with (first
      |(refine wpList_load_row rfl 29 _ rfl w.heap.size rfl 29 xc (0,0) _ K0f.out.2 underlying29 rfl HSX.out ?_)
      |(refine bC5 rfl 29 _ _ rfl w5.heap.size xc rfl rfl KZ6.out HSX.out (by show _=_;rw[HXO.out.1];rfl) HXO.out.2 ?_;intro w6 kx bx gr;have B6:=Hd (BZ6.out.trans (bx _ (Nl _)));have cX:=(kx.cell 2).trans HX.out.2.2;have fX:=aR kx.2 2;have K6:Hid (aP (w6.setCell ⟨w5.heap.size,2,none⟩ (.bool true)) w5.heap.size cc 29):=(by show aP _ _ _ _;rw[HCA.out.1];exact bGb kx);have B7:Hid (Below w5.heap.size w5 (w6.setCell ⟨w5.heap.size,2,none⟩ (.bool true))):=B6.out.setCell (Nl _) _;have K0g:=Hd (K0f.out.below B7.out);have c2:=(K0g.out.cell 2).trans HX.out.2.2;clear kx bx gr KZ6 BZ6)
      |(refine bFn ?hw 29 _ rfl w5.heap.size rfl 29 cc (0,0) _ K6.out.2 underlying29 rfl (HSS.out _ HCS.out.1) ?_)
      |(refine bFn (by rfl) 29 _ rfl w5.heap.size rfl 29 cc (0,0) _ K6.out.2 underlying29 rfl (HSS.out _ HCS.out.1) ?_))
     clear cX fX c2;have HB7:=Hd (HB6.out.trans (B7.out.mono HB6.out.size));refine(HCC4.out _ HB7.out).mono ?_;rintro e wz ⟨rfl,hb⟩;have HBz:=Hd (HB7.out.trans (hb.mono HB7.out.size));have K0z:=Hd (K0g.out.below hb);clear hb B7 B6 HB6 HB7 K0f K0g K6 HCC4;have KZn:=Hd (bFz wz);have BZn:=Hd (aB wz Z13);unfold Z13 at KZn BZn;have hwr:=HST2.out;go_wp2_with (first
      |(refine wpList_load_row rfl 29 _ rfl w.heap.size rfl 29 xc (0,0) _ K0z.out.2 underlying29 rfl HSX.out ?_)
      |(refine bC5 rfl 29 _ _ rfl (wz).heap.size xc rfl rfl KZn.out HSX.out (by show _=_;rw[HXO.out.1];rfl) HXO.out.2 ?_;intro w8 kx bx gr;have B8:=Hd (BZn.out.trans (bx _ (Nl _)));have c9:=(kx.cell 1).trans HX.out.2.1;have f9:=aR kx.2 1;have c1:=((K0z.out.below B8.out).cell 1).trans HX.out.2.1;have KN:Hid (aP (w8.setCell ⟨(wz).heap.size,1,none⟩ (.int .i64 (-1-f.stamp))) (wz).heap.size nc 29):=(by show aP _ _ _ _;rw[HCA.out.2];exact bGb kx);have BN:Hid (Below (wz).heap.size wz (w8.setCell ⟨(wz).heap.size,1,none⟩ (.int .i64 (-1-f.stamp)))):=B8.out.setCell (Nl _) _;clear kx bx gr KZn BZn)
      |(refine wpList_load_row rfl 29 _ rfl (wz).heap.size rfl 29 nc (0,0) _ KN.out.2 underlying29 rfl (HSS.out _ HCS.out.2) ?_))
     clear c9 f9 c1 hwr;have HB9:=Hd (HBz.out.trans (BN.out.mono HBz.out.size));refine(HCN3.out _ HB9.out).mono ?_;rintro e w10 ⟨rfl,hb⟩;have HB10:=Hd (HB9.out.trans (hb.mono HB9.out.size));clear hb HB9 BN KN B8 HCN3;go_wp2_with fail;refine(HAW.out _ HB10.out).mono ?_;rintro e w11 ⟨rfl,hb⟩;go_wp2;go_ret;exact⟨rfl,aA HB10.out hb⟩
end Go.Proofs.YthjekgfoidmagaaGreatDoor
