/- WashsaleFindsLaw -/
import Derived.Test.YtiloklnjjfaagaaGreatDoorWJ
set_option maxHeartbeats 16000000
set_option maxRecDepth 100000
namespace Go.Proofs.YtiloklnjjfaagaaGreatDoor
open Go.Proofs.Tryz
open Go Go.RowKit Num
attribute [local go_sem] eW eN aV
theorem dIo(ls:List Bd)(gs:List aLe)(ins:List UInt8)(d:Int)(wash:Int)(a a2:Option Addr)(c c2:Nat)(w:World)(hE:iE w)(hn:ls.length<=9223372036854775807)(hc:ls.length<=c)(hw:Jj w a ls)(hs:∀x,x∈ls->x.fits)
  (hn2:gs.length<=9223372036854775807) (_hc2:gs.length<=c2) (hw2:aL3 w a2 gs) (hs2:∀x,x∈gs->x.fits) (_hins:ins.length<=9223372036854775807) :
  Calls prog 8 #[.slice a ls.length c,.slice a2 gs.length c2,.string ⟨ins.toArray⟩,.int .i64 d,.int .i64 wash] w fun e w'=>e=.returned (.bool true)/\Below w.heap.size w w':=by
 have HA:=Hd (fun W (hb:Below w.heap.size w W)=>dHq W (hE.below hb));have H1:=Hd (dHp ls gs a c a2 c2 w hn hw hs hn2 hw2 hs2);have HE:=Hd hE;have HW:=Hd (And.intro hw hw2);clear hE hw hs hw2 hs2 hn hn2 _hc2;go_enter func8,ntmps8;go_wp2_with fail;refine H1.out.mono ?_;rintro e w1 ⟨rfl,hb⟩;have HB:=Hd hb;clear hb H1;cases hg:dFm ls gs
 case true =>
  go_wp2_with fail;refine(HA.out _ HB.out).mono ?_;rintro e w2 ⟨rfl,hb⟩;go_wp2;go_ret;exact⟨rfl,aA HB.out hb⟩
 have S:=Hd (dI2 hg);clear hg
 by_cases g24:(24:Int)<ins.length
 ·go_wp2_with fail;refine(HA.out _ HB.out).mono ?_;rintro e w2 ⟨rfl,hb⟩;go_wp2;go_ret;exact⟨rfl,aA HB.out hb⟩
 have HL1:=Hd (fun W (hb:Below w.heap.size w W)=>dJ8 gs a2 c2 ins d wash W (HE.out.below hb) (by have:=S.out.gl;omega) (HW.out.2.below hb) (fun x hx=>(S.out.gains x hx).wide));have HL2:=Hd (fun W (hb:Below w.heap.size w W)=>dJ3 gs a2 c2 ins d wash W (by have:=S.out.gl;omega) (HW.out.2.below hb) S.out.gains);have HD1:=Hd (fun W (hb:Below w.heap.size w W)=>dJ2 gs a2 c2 ins W (HE.out.below hb) (by have:=S.out.gl;omega) (HW.out.2.below hb) (fun x hx=>(S.out.gains x hx).wide));have HD2:=Hd (fun W (hb:Below w.heap.size w W)=>dJz gs a2 c2 ins W S.out.gl (HW.out.2.below hb) S.out.gains);have HLL:Hid ((dDj gs ins d wash).length<=1000000):=by
  show _<=_;unfold dDj;split
  ·exact Nat.le_trans (dHl _ _ _) (by have:=S.out.gl;omega)
  ·simp
 generalize dDj gs ins d wash=zs at *;generalize dEk [] gs d wash []=ck1 at *;generalize dEk [] gs 0 0 []=ck2 at *;generalize dC2 gs ins=dd at *;go_wp2_with fail;refine(HL1.out _ HB.out).mono ?_;rintro e w2 ⟨⟨v,rfl,hown⟩,hb⟩;obtain⟨va,vc,rfl,hrow⟩:=gK hown;have I1:=Hd (dJk hrow);have HB2:=Hd (aA HB.out hb);clear hb HL1 HB hown hrow;go_wp2_with fail;refine(HL2.out _ HB2.out).mono ?_;rintro e w3 ⟨⟨v,rfl,hown⟩,hb⟩;obtain⟨ua,uc,rfl,hrow⟩:=gK hown;have I2:=Hd (dJk hrow);have I1:=Hd (I1.out.below hb);have HB3:=Hd (aA HB2.out hb);clear hb HL2 HB2 hown hrow;go_wp2_with fail;refine(HD1.out _ HB3.out).mono ?_;rintro e w4 ⟨rfl,hb⟩;have I1:=Hd (I1.out.below hb);have I2:=Hd (I2.out.below hb);have HB4:=Hd (aA HB3.out hb);clear hb HD1 HB3;go_wp2_with fail;refine(HD2.out _ HB4.out).mono ?_;rintro e w5 ⟨rfl,hb⟩;have I1:=Hd (I1.out.below hb);have I2:=Hd (I2.out.below hb);have HB5:=Hd (aA HB4.out hb);clear hb HD2 HB4;go_wp2_with fail;refine(dJg zs va ua vc uc w5 HLL.out I1.out I2.out).mono ?_;rintro e w6 ⟨rfl,hb⟩;have HB6:=Hd (aA HB5.out hb);clear hb I1 I2 HB5;go_wp2_with fail;go_loopw [93] (fun i W=>Hid (Below w.heap.size w W)/\∃k:Nat,k<=gs.length/\i=.int .i64 (k:Int)) (fun i _=>gs.length-(intOf i).toNat)
 case atStart=>exact⟨HB6,0,Nat.zero_le _,rfl⟩
 case round =>
  clear HB6;obtain⟨hB,k,hk,rfl⟩:=hrel;have hgl:=S.out.gl
  by_cases hlt:k<gs.length
  ·obtain⟨x,hx⟩:∃x,gs[k]?=some x:=⟨gs[k],Lg hlt⟩
   have sx:=S.out.gains x (List.mem_of_getElem? hx);obtain⟨b,off,ha,k0,k1,k2,k3,k4,k5,k6,k7,k8,k9⟩:=(HW.out.2.below hB.out).addr hx;subst ha;have HO1:=Hd (fun W (hb:Below w.heap.size w W)=>dKh x W (HE.out.below hb) sx.wide);have HO2:=Hd (fun W=>dKa x W sx);have HR1:=Hd (fun W (hb:Below w.heap.size w W)=>dJh ls x a c d wash W (HE.out.below hb) (by have:=S.out.ll;omega) (HW.out.1.below hb) (fun y hy=>by obtain⟨a,b,c,d,e⟩:=S.out.lots y hy;exact⟨by omega,by omega,by omega,by omega,by omega⟩) sx.wide);have HR2:=Hd (fun W (hb:Below w.heap.size w W)=>dIr ls x a c d wash W (by have:=S.out.ll;omega) hc (HW.out.1.below hb) (fun y hy=>by obtain⟨a,b,c,d,e⟩:=S.out.lots y hy;exact⟨⟨by omega,by omega,by omega,by omega,by omega⟩,c,e⟩) sx);have HRL:Hid ((dIq ls x d wash).length<=1000000):=by
    show _<=_;unfold dIq;split
    ·split
     ·exact Nat.le_trans (dHl _ _ _) (by have:=S.out.ll;omega)
     ·simp
    ·simp
   have hba:=aB wr (.cells #[.string ⟨x.cause.toArray⟩,.string ⟨x.lot.toArray⟩,.string ⟨x.ins.toArray⟩,.int .i64 x.acq,.int .i64 x.cls,.string ⟨x.q.toArray⟩,.string ⟨x.p.toArray⟩,.string ⟨x.c.toArray⟩,.string ⟨x.df.toArray⟩,.string ⟨x.rp.toArray⟩] 42);have HB7:=Hd (aA hB.out hba);have KX:=Hd (aP.new0 wr #[.string ⟨x.cause.toArray⟩,.string ⟨x.lot.toArray⟩,.string ⟨x.ins.toArray⟩,.int .i64 x.acq,.int .i64 x.cls,.string ⟨x.q.toArray⟩,.string ⟨x.p.toArray⟩,.string ⟨x.c.toArray⟩,.string ⟨x.df.toArray⟩,.string ⟨x.rp.toArray⟩] 42);obtain⟨z,hz⟩:∃z,z=(if x.err=0 then(0:Int) else 1):=⟨_,rfl⟩
   rw[<-hz] at HO1 HO2;simp only[aLe.v,aLe.cs] at HO1 HO2 HR1 HR2;clear hx sx hba hz hB;generalize dJ1 x=ox at *;generalize dIq ls x d wash=rs at *;generalize dEk ls [x] d wash []=ck3 at *;go_wp2_with fail;generalize wr.alloc _=w7 at *;clear k0 k1 k2 k3 k4 k5 k6 k7 k8 k9;refine(HO1.out _ HB7.out).mono ?_;rintro e w8 ⟨rfl,hb⟩;have HB8:=Hd (aA HB7.out hb);have KX8:=Hd (KX.out.below hb);clear hb HO1 HB7 KX;have c0:=KX8.out.cell 0;have c1:=KX8.out.cell 1;have c2':=KX8.out.cell 2;have c3:=KX8.out.cell 3;have c4:=KX8.out.cell 4;have c5:=KX8.out.cell 5;have c6:=KX8.out.cell 6;have c7:=KX8.out.cell 7;have c8:=KX8.out.cell 8;have c9:=KX8.out.cell 9;go_wp2_with fail;refine(HO2.out _).mono ?_;rintro e w9 ⟨rfl,hb⟩;have HB9:=Hd (aA HB8.out hb);have KX9:=Hd (KX8.out.below hb);clear hb HO2 HB8 KX8 c0 c1 c2' c3 c4 c5 c6 c7 c8 c9;have c0:=KX9.out.cell 0;have c1:=KX9.out.cell 1;have c2':=KX9.out.cell 2;have c3:=KX9.out.cell 3;have c4:=KX9.out.cell 4;have c5:=KX9.out.cell 5;have c6:=KX9.out.cell 6;have c7:=KX9.out.cell 7;have c8:=KX9.out.cell 8;have c9:=KX9.out.cell 9;go_wp2_with fail;refine(HR1.out _ HB9.out).mono ?_;rintro e w10 ⟨⟨v,rfl,hown,_⟩,hb⟩;obtain⟨va,vc,rfl,hrow⟩:=gK hown;have I1:=Hd (dJk hrow);have HB10:=Hd (aA HB9.out hb);have KX10:=Hd (KX9.out.below hb);clear hb HR1 HB9 KX9 hown hrow c0 c1 c2' c3 c4 c5 c6 c7 c8 c9;have c0:=KX10.out.cell 0;have c1:=KX10.out.cell 1;have c2':=KX10.out.cell 2;have c3:=KX10.out.cell 3;have c4:=KX10.out.cell 4;have c5:=KX10.out.cell 5;have c6:=KX10.out.cell 6;have c7:=KX10.out.cell 7;have c8:=KX10.out.cell 8;have c9:=KX10.out.cell 9;go_wp2_with fail;refine(HR2.out _ HB10.out).mono ?_;rintro e w11 ⟨⟨v,rfl,hown⟩,hb⟩;obtain⟨ua,uc,rfl,hrow⟩:=gK hown;have I2:=Hd (dJk hrow);have I1:=Hd (I1.out.below hb);have HB11:=Hd (aA HB10.out hb);clear hb HR2 HB10 KX10 hown hrow c0 c1 c2' c3 c4 c5 c6 c7 c8 c9;go_wp2_with fail;refine(dJg rs va ua vc uc w11 HRL.out I1.out I2.out).mono ?_;rintro e w12 ⟨rfl,hb⟩;have HB12:=Hd (aA HB11.out hb);clear hb I1 I2 HB11;go_wp2;go_round
   case rel=>exact⟨HB12,k+1,by omega,by go_num⟩
   case measure=>simp[intOf];omega
  ·obtain rfl:k=gs.length:=by omega
   obtain⟨m,hm1,hm2,hm3⟩:∃m:Nat,(m:Int)=min (ls.length:Int) 12/\m<=ls.length/\m<=12:=⟨min ls.length 12,by omega,by omega,by omega⟩
   have hmc:m<=c:=by omega
   clear hk hlt;go_wp2_with fail;rw[show (min (ls.length:Int) 12).toNat=m by omega,show max (min (ls.length:Int) 12) 0=(m:Int) by omega];have HM:=Hd (And.intro hm2 hm3);clear hm1 hm2;go_loopw [149] (fun i W=>Hid (Below w.heap.size w W)/\∃k:Nat,k<=m/\i=.int .i64 (k:Int)) (fun i _=>m-(intOf i).toNat)
   case atStart=>exact⟨hB,0,Nat.zero_le _,rfl⟩
   case round =>
    clear hB;obtain⟨hB,k,hk,rfl⟩:=hrel
    by_cases hlt:k<m
    ·obtain⟨y,hy⟩:∃y,ls[k]?=some y:=⟨ls[k]'(Nat.lt_of_lt_of_le hlt HM.out.1),Lg _⟩
     obtain⟨s1,s2,s3,s4,s5⟩:=S.out.lots y (List.mem_of_getElem? hy);have sy:y.small:=⟨by omega,by omega,by omega,by omega,by omega⟩
     obtain⟨b,off,ha,k0,k1,k2,k3,k4,k5,k6⟩:=(HW.out.1.below hB.out).addr hy;subst ha;have HO1:=Hd (fun W (hb:Below w.heap.size w W)=>dKg y W (HE.out.below hb) sy);have HO2:=Hd (fun W=>dJ9 y W sy s3 s5);have hba:=aB wr (.cells #[.string ⟨y.id.toArray⟩,.string ⟨y.ins.toArray⟩,.int .i64 y.acq,.int .i64 y.opn,.string ⟨y.q.toArray⟩,.string ⟨y.c.toArray⟩,.string ⟨y.u.toArray⟩] 49);have HB7:=Hd (aA hB.out hba);have KX:=Hd (aP.new0 wr #[.string ⟨y.id.toArray⟩,.string ⟨y.ins.toArray⟩,.int .i64 y.acq,.int .i64 y.opn,.string ⟨y.q.toArray⟩,.string ⟨y.c.toArray⟩,.string ⟨y.u.toArray⟩] 49);obtain⟨z,hz⟩:∃z,z=(if y.err=0 then(0:Int) else 1):=⟨_,rfl⟩
     rw[<-hz] at HO1 HO2;simp only[Bd.v] at HO1 HO2;clear hy sy hba hz hB s1 s2 s3 s4 s5;generalize dJ0 y=oy at *;go_wp2_with fail;generalize wr.alloc _=w7 at *;clear k0 k1 k2 k3 k4 k5 k6;refine(HO1.out _ HB7.out).mono ?_;rintro e w8 ⟨rfl,hb⟩;have HB8:=Hd (aA HB7.out hb);have KX8:=Hd (KX.out.below hb);clear hb HO1 HB7 KX;have c0:=KX8.out.cell 0;have c1:=KX8.out.cell 1;have c2':=KX8.out.cell 2;have c3:=KX8.out.cell 3;have c4:=KX8.out.cell 4;have c5:=KX8.out.cell 5;have c6:=KX8.out.cell 6;go_wp2_with fail;refine(HO2.out _).mono ?_;rintro e w9 ⟨rfl,hb⟩;have HB9:=Hd (aA HB8.out hb);clear hb HO2 HB8 KX8 c0 c1 c2' c3 c4 c5 c6;go_wp2;go_round
     case rel=>exact⟨HB9,k+1,by omega,by go_num⟩
     case measure=>simp[intOf];omega
    ·obtain rfl:k=m:=by omega
     go_wp2_with fail;refine(HA.out _ hB.out).mono ?_;rintro e w9 ⟨rfl,hb⟩;go_wp2;go_ret;exact⟨rfl,aA hB.out hb⟩
end Go.Proofs.YtiloklnjjfaagaaGreatDoor
