/- Reader13 FParse13 Wr13 DParse13 ReaderF13 Parts13 -/
import Derived.Test.YthjekgfoidmagaaGreatDoorUEncode
set_option maxHeartbeats 16000000
set_option maxRecDepth 100000
namespace Go.Proofs.YthjekgfoidmagaaGreatDoor
open Go.Proofs.Tryz
section
open Go Go.RowKit Num
structure bFf(w w':World)(br:Nat)(b:Bool):Prop where
 box:aP w' br #[.bool b] 96
 os:w'.os=w.os
 tape:w'.tape=w.tape
 output:w'.output=w.output
 size:w.heap.size<=w'.heap.size
 block:∀k,k≠br->k<w.heap.size->w'.heap[k]?=w.heap[k]?
theorem bFf.of_set{w w1:World}{br:Nat}{a:Bool}(h:Below w.heap.size w w1)(hb:aP w br #[.bool a] 96)(b:Bool):bFf w (w1.setCell ⟨br,0,none⟩ (.bool b)) br b:=by
 have h1:=hb.below h;refine⟨?_,h.os,h.tape,h.output,by simpa[World.setCell] using h.size,fun k hk hl=>?_⟩
 ·refine⟨by simpa[World.setCell] using h1.1,?_⟩;rw[heap_setCell_same w1 br 0 _ _ _ h1.2];rfl
 ·exact(Below.heap_setCell _ _ _ _ (fun e=>hk (by simpa using e))).trans (h.block k hl)
theorem bHl(br:Nat)(bad:Bool)(s:List UInt8)(w:World)(hb:aP w br #[.bool bad] 96)(hl:s.length<=65536):
  Calls prog 189 #[.pointer (some ⟨br,0,none⟩),.string ⟨s.toArray⟩] w fun e w'=>e=.returned (.string ⟨((bDv s).getD []).toArray⟩)/\bFf w w' br (bad || (bDv s).isNone):=by
 have HP:=Hd (bHg s w hl);have HB:=Hd hb;unfold bOh at HP;clear hb hl;generalize bDv s=o at *;cases o <;> cases bad
 all_goals
  simp only[Option.getD_none,Option.getD_some,Option.isSome_none,Option.isSome_some,Option.isNone_none,Option.isNone_some,if_true,if_false,Bool.false_eq_true,Bool.or_true,Bool.or_false] at *;go_enter func189,ntmps189;go_wp2_with fail;refine HP.out.mono ?_;rintro e w1 ⟨rfl,hb1⟩;have K1:=HB.out.below hb1;have k0:=K1.cell 0;have f0:=aR K1.2 0;have HB1:=Hd hb1;clear hb1 K1;go_wp2;go_ret;exact⟨rfl,bFf.of_set HB1.out HB.out _⟩
theorem bHk(br:Nat)(bad:Bool)(s:List UInt8)(w:World)(hE:iE w)(hb:aP w br #[.bool bad] 96)(hl:s.length<=65536):
  Calls prog 127 #[.pointer (some ⟨br,0,none⟩),.string ⟨s.toArray⟩] w fun e w'=>∃n:Int,e=.returned (.int .i64 n)/\bFf w w' br (bad || (bD7 s).isNone)/\∀v,bD7 s=some v->n=v:=by
 have HB:=Hd hb;have HE:=Hd hE
 by_cases hok:∃v,Lib.atoiAll s=.ok v
 ·obtain⟨v,hv⟩:=hok;have HA:=Hd (Vw s v hv w (by omega));have hbd:=aAa hv;have HI:=Hd (fun W hE=>Uj v hbd.1 hbd.2 W hE);have hrn:bD7 s=if 0<=v/\Lib.itoa v=s then some v else none:=by unfold bD7;rw[hv]
  generalize Lib.itoa v=t at *
  by_cases h0:v<0
  ·have HR:Hid (bD7 s=none):=by show _=_;rw[hrn,if_neg (by omega)]
   clear hrn hb hE hv hbd;cases bad
   all_goals
    go_enter func127,ntmps127;go_wp2_with fail;refine HA.out.mono ?_;rintro e w1 ⟨rfl,hb1⟩;have K1:=HB.out.below hb1;have k0:=K1.cell 0;have f0:=aR K1.2 0;have HB1:=Hd hb1;clear hb1 K1;go_wp2;go_ret;exact⟨v,rfl,by rw[HR.out];exact bFf.of_set HB1.out HB.out _,fun v' h=>by rw[HR.out] at h;cases h⟩
  ·have h0':decide (v<0)=false:=by simpa using h0
   have HR:Hid (bD7 s=if t=s then some v else none):=by
    show _=_;rw[hrn]
    by_cases ht:t=s
    ·rw[if_pos ⟨by omega,ht⟩,if_pos ht]
    ·rw[if_neg (fun h=>ht h.2),if_neg ht]
   clear hrn hb hE hv hbd;cases bad
   ·by_cases ht:t=s
    ·subst ht;rw[if_pos rfl] at HR;go_enter func127,ntmps127;go_wp2_with fail;refine HA.out.mono ?_;rintro e w1 ⟨rfl,hb1⟩;have k1:=(HB.out.below hb1).cell 0;have HB1:=Hd hb1;clear hb1;go_wp2_with fail;refine(HI.out _ (HE.out.below HB1.out)).mono ?_;rintro e w2 ⟨rfl,hb2⟩;have HB2:=Hd (aA HB1.out hb2);have K2:=HB.out.below HB2.out;have k0:=K2.cell 0;have f0:=aR K2.2 0;clear hb2 K2;go_wp2;go_ret;exact⟨v,rfl,by rw[HR.out];exact bFf.of_set HB2.out HB.out _,fun v' h=>by rw[HR.out] at h;exact Option.some.inj h⟩
    ·rw[if_neg ht] at HR;have hts:(t==s)=false:=by simpa using ht
     clear ht;go_enter func127,ntmps127;go_wp2_with fail;refine HA.out.mono ?_;rintro e w1 ⟨rfl,hb1⟩;have k1:=(HB.out.below hb1).cell 0;have HB1:=Hd hb1;clear hb1;go_wp2_with fail;refine(HI.out _ (HE.out.below HB1.out)).mono ?_;rintro e w2 ⟨rfl,hb2⟩;have HB2:=Hd (aA HB1.out hb2);have K2:=HB.out.below HB2.out;have k0:=K2.cell 0;have f0:=aR K2.2 0;clear hb2 K2;go_wp2;go_ret;exact⟨v,rfl,by rw[HR.out];exact bFf.of_set HB2.out HB.out _,fun v' h=>by rw[HR.out] at h;cases h⟩
   ·go_enter func127,ntmps127;go_wp2_with fail;refine HA.out.mono ?_;rintro e w1 ⟨rfl,hb1⟩;have K1:=HB.out.below hb1;have k0:=K1.cell 0;have f0:=aR K1.2 0;have HB1:=Hd hb1;clear hb1 K1;go_wp2;go_ret;exact⟨v,rfl,bFf.of_set HB1.out HB.out _,fun v' h=>by rw[HR.out] at h;split at h;exact Option.some.inj h;cases h⟩
 ·have HA:=Hd (Zz s (fun v hv=>hok ⟨v,hv⟩) w hE (by omega));have HR:Hid (bD7 s=none):=by
   show _=_;unfold bD7;cases hq:Lib.atoiAll s with
   |ok v=>exact absurd ⟨v,hq⟩ hok
   |_=>rfl
  clear hok hb hE;cases bad
  all_goals
   go_enter func127,ntmps127;go_wp2_with fail;refine HA.out.mono ?_;rintro e w1 ⟨n,q,rfl,hb1⟩;have K1:=HB.out.below hb1;have k0:=K1.cell 0;have f0:=aR K1.2 0;have HB1:=Hd hb1;clear hb1 K1;go_wp2;go_ret;exact⟨n,rfl,by rw[HR.out];exact bFf.of_set HB1.out HB.out _,fun v' h=>by rw[HR.out] at h;cases h⟩
end
section
open Go Go.RowKit Num
def bLw(o:Option bZ):Value:=.tuple #[.agg #[.string ⟨(o.getD bD4).n.toArray⟩,.string ⟨(o.getD bD4).d.toArray⟩],.int .i64 (if o.isSome=true then 0 else 3)]
theorem bJ0{s c:List UInt8}(h:bDv s=some c):c.length<=s.length/\aJ (val c)=c:=by
 unfold bDv at h;split at h
 ·rename_i e;obtain rfl:=Option.some.inj h;rw[bE];refine⟨?_,rfl⟩;unfold bDr at e;split at e
  ·rename_i e0;rw[e0,nA];simp
  ·rw[e];exact Nl _
 ·cases h
theorem bMn{z:Int}(h:0<z):bG z 0=1:=by unfold bG;rw[if_neg (by omega),if_pos h]
theorem bN4{z:Int}(h:z<=0):bG z 0<=0:=by unfold bG;split;omega;split <;> omega
theorem bJf{z:Int}{l:List UInt8}{K:Nat}(hK:1<=K)(h:z.natAbs<=(val l).natAbs)(hl:l.length<=K):(aJ z).length<=K+1:=gC hK (Nat.lt_of_le_of_lt h (lO hl))
theorem bMu(s:List UInt8)(w:World)(hE:iE w)(hl:s.length<=65536):
  Calls prog 250 #[.string ⟨s.toArray⟩] w fun e w'=>e=.returned (bLw (bDm s))/\Below w.heap.size w w':=by
 have h0:decide ((65536:Int)<(s.length:Int))=false:=by simp;omega
 have HE:=Hd hE;have HCU:=Hd (fun W hE=>Vi s W hE (by omega));have hc1:=(Zt s).1;have hc2:=(Zt s).2;have HR:Hid (bDm s=(bDv (Lib.cut s [47]).1).bind fun n=>(bDv (bF0 s)).bind fun d =>
  if val d<=0 then none else if bEb (eT (val n) (val d)) (fT (val n) (val d))=s then some ⟨aJ (eT (val n) (val d)),nD (fT (val n) (val d))⟩ else none):=rfl
 have hbl:(bF0 s).length<=65536:=by unfold bF0;split;omega;simp
 have HA:=Hd (fun W=>bHg (Lib.cut s [47]).1 W (by omega));have HB:=Hd (fun W=>bHg (bF0 s) W hbl);have hbw:bF0 s=if(Lib.cut s [47]).2.2=true then(Lib.cut s [47]).2.1 else[49]:=rfl
 have HL1:Hid (∀c,bDv (Lib.cut s [47]).1=some c->c.length<=65537):=fun c h=>by have:=(bJ0 h).1;omega
 have HL2:Hid (∀c,bDv (bF0 s)=some c->c.length<=65537):=fun c h=>by have:=(bJ0 h).1;omega
 have K0:=aP.new0 w #[.string ⟨#[]⟩,.string ⟨#[]⟩] 25;have HK0:=Hd K0;have HB0:=Hd (aB w (.cells #[.string ⟨#[]⟩,.string ⟨#[]⟩] 25));generalize bDm s=R at *;generalize bDv (Lib.cut s [47]).1=o1 at *;generalize bDv (bF0 s)=o2 at *;generalize bF0 s=b at *;generalize Lib.cut s [47]=cu at *;obtain⟨a,b0,sl⟩:=cu;unfold bOh at HA HB;unfold bLw;dsimp only at *;clear hE hl hc1 hc2 K0;cases sl
 all_goals
  simp only[Bool.false_eq_true,if_false,if_true] at hbw;subst hbw
  by_cases hno:o1=none∨o2=none
  ·have hR:R=none:=by
    rw[HR.out];rcases hno with rfl|rfl
    ·rfl
    ·cases o1 <;> rfl
   have hx:(o1.isSome=true->o2.isSome=false):=by
    rcases hno with rfl|rfl
    ·intro h;cases h
    ·intro _;rfl
   rw[hR];clear HR hR HL1 HL2 hno;cases o1 <;> cases o2
   all_goals first
    |(simp at hx;done)
    |(simp only[Option.getD_none,Option.getD_some,Option.isSome_none,Option.isSome_some,if_true,if_false,Bool.false_eq_true] at *
      clear hx;go_enter func250,ntmps250;go_wp2_with fail;refine(HCU.out _ (HE.out.below HB0.out)).mono ?_;rintro e w1 ⟨rfl,hb1⟩;have HK1:=Hd (HK0.out.below hb1);have HB1:=Hd (aA HB0.out hb1);clear hb1;go_wp2_with fail;refine(HA.out _).mono ?_;rintro e w2 ⟨rfl,hb2⟩;have HK2:=Hd (HK1.out.below hb2);have HB2:=Hd (aA HB1.out hb2);clear hb2;go_wp2_with fail;refine(HB.out _).mono ?_;rintro e w3 ⟨rfl,hb3⟩;have K3:=HK2.out.below hb3;have HB3:=Hd (aA HB2.out hb3);have k0:=K3.cell 0;have k1:=K3.cell 1;have f0:=aR K3.2 0;have f1:=aR K3.2 1;have HBZ:=Hd ((HB3.out.setCell (p:=⟨w.heap.size,0,none⟩) (Nl _) (.string ⟨#[]⟩)).setCell (p:=⟨w.heap.size,1,none⟩) (Nl _) (.string ⟨#[]⟩));clear hb3 K3;go_wp2;exact bodyPost_ret (v:=.tuple #[.agg #[.string ⟨#[]⟩,.string ⟨#[]⟩],.int .i64 3]) (by simp[results,results250,go_sem,k0,k1]) rfl ⟨rfl,HBZ.out⟩)
  ·obtain⟨n,rfl⟩:∃n,o1=some n:=by cases o1;exact absurd (.inl rfl) hno;exact⟨_,rfl⟩
   obtain⟨d,rfl⟩:∃d,o2=some d:=by cases o2;exact absurd (.inr rfl) hno;exact⟨_,rfl⟩
   have hn:=HL1.out n rfl;have hd:=HL2.out d rfl;have hR:=HR.out;simp only[Option.bind_some] at hR;simp only[Option.getD_some,Option.isSome_some,if_true] at HA HB;have HC:=Hd (fun W=>nV d [] W (by omega) (by simp));rw[show val []=0 from rfl] at HC;clear HR HL1 HL2 hno
   by_cases hdp:val d<=0
   ·rw[if_pos hdp] at hR;subst hR;have hcm:=bN4 hdp;generalize bG (val d) 0=cm at *;simp only[Option.getD_none,Option.isSome_none,if_false,Bool.false_eq_true];clear hdp hn hd;go_enter func250,ntmps250;go_wp2_with fail;refine(HCU.out _ (HE.out.below HB0.out)).mono ?_;rintro e w1 ⟨rfl,hb1⟩;have HK1:=Hd (HK0.out.below hb1);have HB1:=Hd (aA HB0.out hb1);clear hb1;go_wp2_with fail;refine(HA.out _).mono ?_;rintro e w2 ⟨rfl,hb2⟩;have HK2:=Hd (HK1.out.below hb2);have HB2:=Hd (aA HB1.out hb2);clear hb2;go_wp2_with fail;refine(HB.out _).mono ?_;rintro e w3 ⟨rfl,hb3⟩;have HK3:=Hd (HK2.out.below hb3);have HB3:=Hd (aA HB2.out hb3);clear hb3;go_wp2_with fail;refine(HC.out _).mono ?_;rintro e w4 ⟨rfl,hb4⟩;have K4:=HK3.out.below hb4;have HB4:=Hd (aA HB3.out hb4);have k0:=K4.cell 0;have k1:=K4.cell 1;have f0:=aR K4.2 0;have f1:=aR K4.2 1;have HBZ:=Hd ((HB4.out.setCell (p:=⟨w.heap.size,0,none⟩) (Nl _) (.string ⟨#[]⟩)).setCell (p:=⟨w.heap.size,1,none⟩) (Nl _) (.string ⟨#[]⟩));clear hb4 K4;go_wp2;exact bodyPost_ret (v:=.tuple #[.agg #[.string ⟨#[]⟩,.string ⟨#[]⟩],.int .i64 3]) (by simp[results,results250,go_sem,k0,k1]) rfl ⟨rfl,HBZ.out⟩
   ·rw[if_neg hdp] at hR;have hcm:¬ bG (val d) 0<=0:=by rw[bMn (by omega)];omega
    have HMD:=Hd (fun W hE=>bK4 n d W hE (K:=65537) (by decide) (by decide) hn hd (by omega));have hne:val d≠0:=by omega
    have hrl:=bPd (N:=val n) hne;have hdu:=bKf (N:=val n) hne;have hrn:(aJ (eT (val n) (val d))).length<=65538:=bJf (K:=65537) (by decide) (Sy hne) hn;have hrd:(nD (fT (val n) (val d))).length<=65538:=Nat.le_trans (by unfold nD;split;simp;exact Nl _) (bJf (K:=65537) (l:=d) (by decide) (Tk hne) hd);have HPR:=Hd (fun W hE=>bJv (aJ (eT (val n) (val d))) (nD (fT (val n) (val d))) W hE (K:=65538) (by decide) (by decide) hrn hrd);rw[bE,bOz hdu,hrl.1,hrl.2] at HPR;generalize bG (val d) 0=cm at *;generalize bEb (eT (val n) (val d)) (fT (val n) (val d))=pt at *;generalize aJ (eT (val n) (val d))=rn at *;generalize nD (fT (val n) (val d))=rd at *;clear hdp hn hd hne hrl hdu hrn hrd
    by_cases hps:pt=s
    ·rw[if_pos hps] at hR;subst hR hps;simp only[Option.getD_some,Option.isSome_some,if_true];go_enter func250,ntmps250;go_wp2_with fail;refine(HCU.out _ (HE.out.below HB0.out)).mono ?_;rintro e w1 ⟨rfl,hb1⟩;have HK1:=Hd (HK0.out.below hb1);have HB1:=Hd (aA HB0.out hb1);clear hb1;go_wp2_with fail;refine(HA.out _).mono ?_;rintro e w2 ⟨rfl,hb2⟩;have HK2:=Hd (HK1.out.below hb2);have HB2:=Hd (aA HB1.out hb2);clear hb2;go_wp2_with fail;refine(HB.out _).mono ?_;rintro e w3 ⟨rfl,hb3⟩;have HK3:=Hd (HK2.out.below hb3);have HB3:=Hd (aA HB2.out hb3);clear hb3;go_wp2_with fail;refine(HC.out _).mono ?_;rintro e w4 ⟨rfl,hb4⟩;have HK4:=Hd (HK3.out.below hb4);have HB4:=Hd (aA HB3.out hb4);clear hb4;go_wp2_with fail;refine(HMD.out _ (HE.out.below HB4.out)).mono ?_;rintro e w5 ⟨rfl,hb5⟩;have HK5:=Hd (HK4.out.below hb5);have HB5:=Hd (aA HB4.out hb5);clear hb5;go_wp2_with fail;refine(HPR.out _ (HE.out.below (aA HB5.out (aB _ _)))).mono ?_;rintro e w6 ⟨rfl,hb6⟩;have K11:=(aP.new0 w5 #[.string ⟨rn.toArray⟩,.string ⟨rd.toArray⟩] 25).below hb6;have K6:=(HK5.out.below (aB _ _)).below hb6;have HB6:=Hd (aA (aA HB5.out (aB w5 (.cells #[.string ⟨rn.toArray⟩,.string ⟨rd.toArray⟩] 25))) hb6);have k0:=K6.cell 0;have k1:=K6.cell 1;have f0:=aR K6.2 0;have f1:=aR K6.2 1;have g0:=K11.cell 0;have g1:=K11.cell 1;have HBY:=Hd ((HB6.out.setCell (p:=⟨w.heap.size,0,none⟩) (Nl _) (.string ⟨rn.toArray⟩)).setCell (p:=⟨w.heap.size,1,none⟩) (Nl _) (.string ⟨rd.toArray⟩));have HBZ:=Hd ((HB6.out.setCell (p:=⟨w.heap.size,0,none⟩) (Nl _) (.string ⟨#[]⟩)).setCell (p:=⟨w.heap.size,1,none⟩) (Nl _) (.string ⟨#[]⟩));clear hb6 K11 K6;go_wp2;exact bodyPost_ret (v:=.tuple #[.agg #[.string ⟨rn.toArray⟩,.string ⟨rd.toArray⟩],.int .i64 0]) (by simp[results,results250,go_sem,k0,k1]) rfl ⟨rfl,HBY.out⟩
    ·rw[if_neg hps] at hR;subst hR;have hpb:(pt==s)=false:=by simpa using hps
     simp only[Option.getD_none,Option.isSome_none,if_false,Bool.false_eq_true];clear hps;go_enter func250,ntmps250;go_wp2_with fail;refine(HCU.out _ (HE.out.below HB0.out)).mono ?_;rintro e w1 ⟨rfl,hb1⟩;have HK1:=Hd (HK0.out.below hb1);have HB1:=Hd (aA HB0.out hb1);clear hb1;go_wp2_with fail;refine(HA.out _).mono ?_;rintro e w2 ⟨rfl,hb2⟩;have HK2:=Hd (HK1.out.below hb2);have HB2:=Hd (aA HB1.out hb2);clear hb2;go_wp2_with fail;refine(HB.out _).mono ?_;rintro e w3 ⟨rfl,hb3⟩;have HK3:=Hd (HK2.out.below hb3);have HB3:=Hd (aA HB2.out hb3);clear hb3;go_wp2_with fail;refine(HC.out _).mono ?_;rintro e w4 ⟨rfl,hb4⟩;have HK4:=Hd (HK3.out.below hb4);have HB4:=Hd (aA HB3.out hb4);clear hb4;go_wp2_with fail;refine(HMD.out _ (HE.out.below HB4.out)).mono ?_;rintro e w5 ⟨rfl,hb5⟩;have HK5:=Hd (HK4.out.below hb5);have HB5:=Hd (aA HB4.out hb5);clear hb5;go_wp2_with fail;refine(HPR.out _ (HE.out.below (aA HB5.out (aB _ _)))).mono ?_;rintro e w6 ⟨rfl,hb6⟩;have K11:=(aP.new0 w5 #[.string ⟨rn.toArray⟩,.string ⟨rd.toArray⟩] 25).below hb6;have K6:=(HK5.out.below (aB _ _)).below hb6;have HB6:=Hd (aA (aA HB5.out (aB w5 (.cells #[.string ⟨rn.toArray⟩,.string ⟨rd.toArray⟩] 25))) hb6);have k0:=K6.cell 0;have k1:=K6.cell 1;have f0:=aR K6.2 0;have f1:=aR K6.2 1;have g0:=K11.cell 0;have g1:=K11.cell 1;have HBY:=Hd ((HB6.out.setCell (p:=⟨w.heap.size,0,none⟩) (Nl _) (.string ⟨rn.toArray⟩)).setCell (p:=⟨w.heap.size,1,none⟩) (Nl _) (.string ⟨rd.toArray⟩));have HBZ:=Hd ((HB6.out.setCell (p:=⟨w.heap.size,0,none⟩) (Nl _) (.string ⟨#[]⟩)).setCell (p:=⟨w.heap.size,1,none⟩) (Nl _) (.string ⟨#[]⟩));clear hb6 K11 K6;go_wp2;exact bodyPost_ret (v:=.tuple #[.agg #[.string ⟨#[]⟩,.string ⟨#[]⟩],.int .i64 3]) (by simp[results,results250,go_sem,k0,k1]) rfl ⟨rfl,HBZ.out⟩
end
section
open Go Go.RowKit Num
structure aZf(S:Nat->Prop)(A B:World):Prop where
 os:B.os=A.os
 tape:B.tape=A.tape
 output:B.output=A.output
 size:A.heap.size<=B.heap.size
 block:∀k,k<A.heap.size->¬ S k->B.heap[k]?=A.heap[k]?
section
variable {S S':Nat->Prop}{A B C:World}
theorem aZf.refl(S:Nat->Prop)(A:World):aZf S A A:=⟨rfl,rfl,rfl,Nl _,fun _ _ _=>rfl⟩
theorem aZf.step(h:aZf S A B)(g:aZf S' B C)(hs:∀k,S' k->S k∨A.heap.size<=k):aZf S A C :=
 ⟨g.os.trans h.os,g.tape.trans h.tape,g.output.trans h.output,Nat.le_trans h.size g.size,fun k hk hn=>(g.block k (Nat.lt_of_lt_of_le hk h.size) (fun h'=>(hs k h').elim hn (fun h2=>by omega))).trans (h.block k hk hn)⟩
theorem aZf.trans(h:aZf S A B)(g:aZf S B C):aZf S A C:=h.step g fun _ h=>.inl h
theorem aZf.of_below(h:Below A.heap.size A B):aZf S A B:=⟨h.os,h.tape,h.output,h.size,fun k hk _=>h.block k hk⟩
theorem aZf.then_below(h:aZf S A B)(g:Below B.heap.size B C):aZf S A C:=h.trans (aZf.of_below g)
theorem aZf.weaken(h:aZf S A B)(hs:∀k,S k->S' k):aZf S' A B:=⟨h.os,h.tape,h.output,h.size,fun k hk hn=>h.block k hk fun h'=>hn (hs k h')⟩
theorem aZf.grown{row:Option Nat}(h:A.grownBy B row)(hr:∀k,row=some k->S k):aZf S A B:=⟨h.os,h.tape,h.output,h.size,fun k hk hn=>h.block k hk fun e=>hn (hr k e.symm)⟩
theorem aZf.set(A:World)(p:Addr)(v:Value)(h:S p.block):aZf S A (A.setCell p v) :=
 ⟨rfl,rfl,rfl,by simp[World.setCell],fun k _ hn=>Below.heap_setCell _ _ _ _ fun e=>hn (by rw[e];exact h)⟩
theorem aZf.box(h:aZf S A B){b:Nat}{cs:Array Value}{T:TypeId}(hb:aP A b cs T)(hn:¬ S b):aP B b cs T:=⟨Nat.lt_of_lt_of_le hb.1 h.size,(h.block b hb.1 hn).trans hb.2⟩
theorem aZf.cell(h:aZf S A B){p:Addr}(hp:p.block<A.heap.size)(hn:¬ S p.block):B.cell? p=A.cell? p:=World.cell?_of_block (w:=A) (h.block p.block hp hn)
theorem aZf.below(h:aZf S A B){n:Nat}(hn:n<=A.heap.size)(hs:∀k,k<n->¬ S k):Below n A B:=⟨h.os,h.tape,h.output,h.size,fun k hk=>h.block k (Nat.lt_of_lt_of_le hk hn) (hs k hk)⟩
end
theorem bEq{w:World}{b:Nat}{u v:Value}{T:TypeId}(h:aP w b #[u] T):aP (w.setCell ⟨b,0,none⟩ v) b #[v] T:=by
 refine⟨by simpa[World.setCell] using h.1,?_⟩;rw[heap_setCell_same w b 0 _ _ _ h.2];rfl
end
section
open Go Go.RowKit Num Cal Dt
def bEv(l:List UInt8):Nat:=l.foldl (fun n c=>10*n+(c.toNat+208)%256) 0
theorem bJ5(l:List UInt8)(c:UInt8):bEv (l ++ [c])=10*bEv l+(c.toNat+208)%256:=by simp[bEv]
theorem bHn:∀ {l:List UInt8},l.all bF=true->bEv l=bK l:=by
 intro l h;unfold bEv bK;have:∀(l:List UInt8) (n:Nat),l.all bF=true->l.foldl (fun n c=>10*n+(c.toNat+208)%256) n=l.foldl (fun n c=>10*n+(c.toNat-48)) n:=by
  intro l
  induction l with
  |nil=>intro n _;rfl
  |cons c r ih =>
   intro n h;simp only[List.all_cons,Bool.and_eq_true] at h;have hc:=(dO c).1 h.1;simp only[List.foldl_cons];rw[ih _ h.2,show (c.toNat+208)%256=c.toNat-48 by omega]
 exact this l 0 h
theorem bPh:∀l:List UInt8,bEv l<256*11^l.length:=by
 intro l
 induction hl:l.length generalizing l with
 |zero =>
  have:l=[]:=List.length_eq_zero_iff.1 hl;subst this;simp[bEv]
 |succ n ih =>
  obtain⟨m,c,rfl⟩:∃m c,l=m ++ [c]:=⟨l.dropLast,l.getLast (by intro e;rw[e] at hl;simp at hl),(List.dropLast_concat_getLast _).symm⟩
  rw[bJ5];have:=ih m (by simpa using hl);rw[Nat.pow_succ];have h2:1<=11^n:=Nat.one_le_pow _ _ (by decide);omega
theorem bJk(s:List UInt8)(i k:Nat)(hik:i<=k)(hk:k<=s.length)(h4:k-i<=4)(bs bw:Nat)(bad:Bool)(w:World)(hs:aP w bs #[.string ⟨s.toArray⟩] 9)(hb:aP w bw #[.bool bad] 4):
  Calls prog 188 #[.int .i64 i,.int .i64 k,.pointer (some ⟨bs,0,none⟩),.pointer (some ⟨bw,0,none⟩)] w fun e w'=>e=.returned (.int .i64 (bEv ((s.drop i).take (k-i)):Int))/\aZf (· = bw) w w'/\aP w' bw #[.bool (bad || !((s.drop i).take (k-i)).all bF)] 4:=by
 obtain⟨l,hl⟩:∃l,l=(s.drop i).take (k-i):=⟨_,rfl⟩
 have hlen:l.length=k-i:=by rw[hl];simp;omega
 have hex:(⟨s.toArray⟩:ByteArray).extract i k=⟨l.toArray⟩:=by rw[eN,hl]
 have c0:w.cell? ⟨bs,0,none⟩=some (.string ⟨s.toArray⟩):=hs.cell 0;have hbl:=hb.1;rw[<-hl];have HC:=Hd (fun j (hj:j<l.length)=>Lib.bytesWorld_cell w 5 ⟨l.toArray⟩ j (by rw[aV];exact hj));have HB:=Hd (Lib.bytesWorld_below w 5 ⟨l.toArray⟩);have HSZ:Hid ((Lib.bytesWorld w 5 ⟨l.toArray⟩).heap.size=w.heap.size+1):=Lib.bytesWorld_size w _ _;have hcv:=Lib.run_convert_string_bytes (P:=prog) w 9 104 5 ⟨l.toArray⟩ underlying9 underlying104 underlying5;rw[aV] at hcv;generalize Lib.bytesWorld w 5 ⟨l.toArray⟩=w1 at *;rw[<-hex] at hcv;generalize grownCap w l.length 0 5=cp at *;have HK:=Hd (hb.below HB.out);have HNW:Hid (∀j,j<=l.length->bEv (l.take j)<=4000000):=fun j hj=>by
  have h1:=bPh (l.take j);have h2:(l.take j).length<=4:=by rw[List.length_take];omega
  have h3:11^(l.take j).length<=11^4:=Nat.pow_le_pow_right (by decide) h2;omega
 have hsk:k<=s.length:=hk;have HL0:Hid (∀j,j<l.length->l.take (j+1)=l.take j ++ [l.getD j 0]):=fun j hj=>by rw[List.take_add_one,List.getD_eq_getElem?_getD,Lg hj];rfl
 have HLEN:=Hd hlen;clear hs hb hl hex;go_enter func188,ntmps188;go_wp2;go_loopw [7,16] (fun nv iv wr=>∃j:Nat,j<=l.length/\iv=.int .i64 (j:Int)/\nv=.int .i64 (bEv (l.take j):Int)/\Hid (aZf (· = bw) w1 wr)/\Hid (aP wr bw #[.bool (bad || !(l.take j).all bF)] 4)) (fun _ iv _=>l.length-(intOf iv).toNat)
 case atStart=>exact⟨0,Nat.zero_le _,rfl,rfl,aZf.refl _ _,by show aP _ _ _ _;simpa using HK.out⟩
 case round =>
  obtain⟨j,hj,rfl,rfl,HW,HBX⟩:=hrel
  by_cases hlt:j<l.length
  ·have hck:=(HW.out.cell (p:=⟨w.heap.size,j,none⟩) (by show w.heap.size<_;rw[HSZ.out];omega) (by show ¬ w.heap.size=bw;omega)).trans (HC.out j hlt);have hbd:=aDu (l.getD j 0);have hnw:=HNW.out j hj;have HN1:Hid (bEv (l.take (j+1))=10*bEv (l.take j)+((l.getD j 0).toNat+208)%256):=by show _=_;rw[HL0.out j hlt,bJ5]
   have HA1:Hid ((l.take (j+1)).all bF=((l.take j).all bF&&bF (l.getD j 0))):=by show _=_;rw[HL0.out j hlt];simp
   have HD:Hid (bF (l.getD j 0)=(decide (48<=(l.getD j 0).toNat)&&decide ((l.getD j 0).toNat<=57))):=rfl;change wr.cell? _=some (.int .u8 ((l.getD j 0).toNat:Int)) at hck;have kb:=HBX.out.cell 0;have kf:=aR HBX.out.2 0;generalize hbb:(bad || !(l.take j).all bF)=bb at *;have HBB:Hid (∀d:Bool,(bad || !((l.take j).all bF&&d))=(bb || !d)):=fun d=>by rw[<-hbb];cases bad <;> cases(l.take j).all bF <;> cases d <;> rfl
   generalize bF (l.getD j 0)=db at *;generalize(l.getD j 0).toNat=c at *;have hw8:IntKind.wrap .u8 ((c:Int)-48)=(((c+208)%256:Nat):Int):=by simp only[IntKind.wrap];simp[IntKind.bits,IntKind.signed];omega
   have hc8:(c+208)%256<=255:=by omega
   generalize(c+208)%256=c8 at *;generalize bEv (l.take j)=n0 at *;have HWN:=Hd HW.out;have HBX2:=Hd HBX.out;clear hbb HW HBX;cases bb
   ·by_cases g1:c<48
    ·have hz:(bad || !(l.take (j+1)).all bF)=true:=by rw[HA1.out,HBB.out,HD.out];simp;omega
     have HZ:=Hd hz;have n1:((c:Int)<48):=by omega
     clear HA1 HBB HD hz;go_wp2;go_roundw
     case rel=>exact⟨j+1,by omega,by go_num,by rw[HN1.out];refine congrArg _ ?_;omega,HWN.out.trans (aZf.set _ _ _ rfl),by show aP _ _ _ _;rw[HZ.out];exact bEq HBX2.out⟩
     case measure=>simp[intOf];omega
    ·by_cases g2:57<c
     ·have hz:(bad || !(l.take (j+1)).all bF)=true:=by rw[HA1.out,HBB.out,HD.out];simp;omega
      have HZ:=Hd hz;have n1:¬ ((c:Int)<48):=by omega
      have n2:(57:Int)<(c:Int):=by omega
      clear HA1 HBB HD hz;go_wp2;go_roundw
      case rel=>exact⟨j+1,by omega,by go_num,by rw[HN1.out];refine congrArg _ ?_;omega,HWN.out.trans (aZf.set _ _ _ rfl),by show aP _ _ _ _;rw[HZ.out];exact bEq HBX2.out⟩
      case measure=>simp[intOf];omega
     ·have hz:(bad || !(l.take (j+1)).all bF)=false:=by rw[HA1.out,HBB.out,HD.out];simp;omega
      have HZ:=Hd hz;have n1:¬ ((c:Int)<48):=by omega
      have n2:¬ ((57:Int)<(c:Int)):=by omega
      clear HA1 HBB HD hz;go_wp2;go_roundw
      case rel=>exact⟨j+1,by omega,by go_num,by rw[HN1.out];refine congrArg _ ?_;omega,HWN.out.trans (aZf.set _ _ _ rfl),by show aP _ _ _ _;rw[HZ.out];exact bEq HBX2.out⟩
      case measure=>simp[intOf];omega
   ·have hz:(bad || !(l.take (j+1)).all bF)=true:=by rw[HA1.out,HBB.out];rfl
    have HZ:=Hd hz;clear HA1 HBB HD hz;go_wp2;go_roundw
    case rel=>exact⟨j+1,by omega,by go_num,by rw[HN1.out];refine congrArg _ ?_;omega,HWN.out.trans (aZf.set _ _ _ rfl),by show aP _ _ _ _;rw[HZ.out];exact bEq HBX2.out⟩
    case measure=>simp[intOf];omega
  ·obtain rfl:j=l.length:=by omega
   rw[List.take_length] at HBX;go_wp2;go_ret;exact⟨by simp,((aZf.of_below HB.out).trans (HW.out.step (aZf.refl _ _) (fun k h=>.inl h))),HBX.out⟩
theorem bNl{a b c d e f g h:UInt8}:(([a,b,c,d].all bF && [e,f].all bF && [g,h].all bF)=true->Cal.Valid (bEv [a,b,c,d]) (bEv [e,f]) (bEv [g,h])->bEc [a,b,c,d,45,e,f,45,g,h]=some (Cal.num (bEv [a,b,c,d]) (bEv [e,f]) (bEv [g,h])-25567))/\(([a,b,c,d].all bF && [e,f].all bF && [g,h].all bF)=false∨¬ Cal.Valid (bEv [a,b,c,d]) (bEv [e,f]) (bEv [g,h])->bEc [a,b,c,d,45,e,f,45,g,h]=none):=by
 have hall:[a,b,c,d,e,f,g,h].all bF=([a,b,c,d].all bF && [e,f].all bF && [g,h].all bF):=by rw[show [a,b,c,d,e,f,g,h]=[a,b,c,d] ++ [e,f] ++ [g,h] from rfl,List.all_append,List.all_append]
 have hn:([a,b,c,d].all bF && [e,f].all bF && [g,h].all bF)=true->bEv [a,b,c,d]=bK [a,b,c,d]/\bEv [e,f]=bK [e,f]/\bEv [g,h]=bK [g,h]:=fun hp=>by
  rw[Bool.and_eq_true,Bool.and_eq_true] at hp;exact⟨bHn hp.1.1,bHn hp.1.2,bHn hp.2⟩
 refine⟨fun hp hv=>?_,fun hno=>?_⟩
 ·obtain⟨n1,n2,n3⟩:=hn hp;rw[n1,n2,n3] at hv ⊢;exact bI8 (by rw[hall];exact hp) hv
 ·unfold bEc;rw[if_neg];rintro⟨_,_,_,k4,k5,k6,k7,k8,k9,k10⟩;have hp:([a,b,c,d].all bF && [e,f].all bF && [g,h].all bF)=true:=by rw[<-hall];exact k4
  obtain⟨n1,n2,n3⟩:=hn hp;rcases hno with h0|h0
  ·rw[hp] at h0;cases h0
  ·rw[n1,n2,n3] at h0;exact h0 ⟨k5,k6,k7,k8,k9,k10⟩
theorem bQd{a b c d:UInt8}(h:[a,b,c,d].all bF=true):bEv [a,b,c,d]<=10000:=by
 rw[bHn h];have:=mR _ h;simp at this;omega
def bI9(o:Option Int)(e:Int):Value:=.tuple #[.int .i64 (o.getD 0),.int .i64 (if o.isSome=true then 0 else e)]
theorem bMw(s:List UInt8)(w:World):
  Calls prog 128 #[.string ⟨s.toArray⟩] w fun e w'=>(∃r:Int,e=.returned (bI9 (bEc s) r)/\r≠0)/\Below w.heap.size w w':=by
 by_cases h10:s.length=10
 ·match s,h10 with
  | [a,b,c,d,x,e,f,y,g,h],_ =>
   have HS0:Hid (Below w.heap.size w (w.alloc (.cells #[.string ⟨#[a,b,c,d,x,e,f,y,g,h]⟩] 9))):=aB _ _;have e4:∀hp,(⟨#[a,b,c,d,x,e,f,y,g,h]⟩:ByteArray)[4]'hp=x:=fun _=>rfl
   have e7:∀hp,(⟨#[a,b,c,d,x,e,f,y,g,h]⟩:ByteArray)[7]'hp=y:=fun _=>rfl
   by_cases hx:x=45
   ·by_cases hy:y=45
    ·subst hx hy;have K1:=aP.new0 w #[.string ⟨#[a,b,c,d,45,e,f,45,g,h]⟩] 9;have K2:=aP.new0 (w.alloc (.cells #[.string ⟨#[a,b,c,d,45,e,f,45,g,h]⟩] 9)) #[.bool false] 4;have K1:=Hd (K1.below (aB _ (.cells #[.bool false] 4)));rw[World.size_alloc] at K2;have K2:=Hd K2;have HB2:Hid (Below w.heap.size w ((w.alloc (.cells #[.string ⟨#[a,b,c,d,45,e,f,45,g,h]⟩] 9)).alloc (.cells #[.bool false] 4))):=aA (aB _ _) (aB _ _);obtain⟨p1,hp1⟩:∃p1,p1=[a,b,c,d].all bF:=⟨_,rfl⟩
     obtain⟨p2,hp2⟩:∃p2,p2=[e,f].all bF:=⟨_,rfl⟩
     obtain⟨p3,hp3⟩:∃p3,p3=[g,h].all bF:=⟨_,rfl⟩
     have HD1:=Hd (fun W h1 h2=>bJk [a,b,c,d,45,e,f,45,g,h] 0 4 (by decide) (by simp) (by decide) w.heap.size (w.heap.size+1) false W h1 h2);have HD2:=Hd (fun bb W h1 h2=>bJk [a,b,c,d,45,e,f,45,g,h] 5 7 (by decide) (by simp) (by decide) w.heap.size (w.heap.size+1) bb W h1 h2);have HD3:=Hd (fun bb W h1 h2=>bJk [a,b,c,d,45,e,f,45,g,h] 8 10 (by decide) (by simp) (by decide) w.heap.size (w.heap.size+1) bb W h1 h2);have HR:=Hd (bNl (a:=a) (b:=b) (c:=c) (d:=d) (e:=e) (f:=f) (g:=g) (h:=h));rw[<-hp1,<-hp2,<-hp3] at HR;have HY:Hid (p1=true->bEv [a,b,c,d]<=10000):=fun h=>bQd (by rw[<-hp1];exact h)
     simp only[show (([a,b,c,d,45,e,f,45,g,h]:List UInt8).drop 0).take (4-0)=[a,b,c,d] from rfl,show (([a,b,c,d,45,e,f,45,g,h]:List UInt8).drop 5).take (7-5)=[e,f] from rfl,show (([a,b,c,d,45,e,f,45,g,h]:List UInt8).drop 8).take (10-8)=[g,h] from rfl] at HD1 HD2 HD3;rw[<-hp1] at HD1;simp only[<-hp2,<-hp3] at HD2 HD3;generalize bEc [a,b,c,d,45,e,f,45,g,h]=R at *;generalize bEv [a,b,c,d]=yy at *;generalize bEv [e,f]=mm at *;generalize bEv [g,h]=dd at *;clear hp1 hp2 hp3 e4 e7 HS0;go_enter func128,ntmps128;go_wp2_with fail;refine(HD1.out _ K1.out K2.out).mono ?_;rintro e0 w1 ⟨rfl,hw1,hb1⟩;have HW1:=Hd hw1;have K11:=Hd (hw1.box K1.out (by show ¬ w.heap.size=w.heap.size+1;omega));have K21:=Hd hb1;clear hw1 hb1;go_wp2_with fail;refine(HD2.out _ _ K11.out K21.out).mono ?_;rintro e0 w2 ⟨rfl,hw2,hb2⟩;have HW2:=Hd (HW1.out.trans hw2);have K12:=Hd (hw2.box K11.out (by show ¬ w.heap.size=w.heap.size+1;omega));have K22:=Hd hb2;clear hw2 hb2;go_wp2_with fail;refine(HD3.out _ _ K12.out K22.out).mono ?_;rintro e0 w3 ⟨rfl,hw3,hb3⟩;have HB3:Hid (Below w.heap.size w w3):=HB2.out.trans ((HW2.out.trans hw3).below (by simp only[World.size_alloc];omega) (fun k hk=>by show ¬ k=w.heap.size+1;omega));have kb:=hb3.cell 0;clear hw3 hb3
     by_cases hp:(p1&&p2&&p3)=true
     ·obtain⟨⟨rfl,rfl⟩,rfl⟩:(p1=true/\p2=true)/\p3=true:=by simpa using hp
      by_cases hv:Cal.Valid yy mm dd
      ·have HRR:=Hd ( HR.out.1 rfl hv);have HOF:=Hd (fun W=>of_yes yy mm dd W hv);clear HR hv hp;go_wp2_with fail;refine(HOF.out _).mono ?_;rintro e0 w4 ⟨rfl,hb4⟩;have HB4:=Hd (aA HB3.out hb4);clear hb4;go_wp2;go_ret2;exact⟨⟨13,by rw[HRR.out];rfl,by decide⟩,HB4.out⟩
      ·have HRR:=Hd ( HR.out.2 (.inr hv));have HOF:=Hd (fun W=>aPh yy mm dd W (by omega) (by have:=HY.out rfl;omega) hv);clear HR hv hp;go_wp2_with fail;refine(HOF.out _).mono ?_;rintro e0 w4 ⟨rfl,hb4⟩;have HB4:=Hd (aA HB3.out hb4);clear hb4;go_wp2;go_ret2;exact⟨⟨13,by rw[HRR.out];rfl,by decide⟩,HB4.out⟩
     ·have hpf:(p1&&p2&&p3)=false:=by simpa using hp
      have HRR:=Hd ( HR.out.2 (.inl hpf));have hbt:(((false || !p1) || !p2) || !p3)=true:=by revert hpf;cases p1 <;> cases p2 <;> cases p3 <;> decide
      rw[hbt] at kb;clear HR hp hpf hbt;go_wp2;go_ret2;exact⟨⟨3,by rw[HRR.out];rfl,by decide⟩,HB3.out⟩
    ·have hR:bEc [a,b,c,d,x,e,f,y,g,h]=none:=by
      unfold bEc;rw[if_neg (fun k=>hy (by have:=k.2.2.1;simpa using this))]
     rw[hR];subst hx;have hyn:((y.toNat:Int) != 45)=true:=by
      have:y.toNat≠45:=fun k=>hy (UInt8.toNat.inj k)
      simp;omega
     clear hy hR;go_enter func128,ntmps128;go_wp2;go_ret2;exact⟨⟨3,rfl,by decide⟩,HS0.out⟩
   ·have hR:bEc [a,b,c,d,x,e,f,y,g,h]=none:=by
     unfold bEc;rw[if_neg (fun k=>hx (by have:=k.2.1;simpa using this))]
    rw[hR];have hxn:((x.toNat:Int) != 45)=true:=by
     have:x.toNat≠45:=fun k=>hx (UInt8.toNat.inj k)
     simp;omega
    clear hx hR;go_enter func128,ntmps128;go_wp2;go_ret2;exact⟨⟨3,rfl,by decide⟩,HS0.out⟩
 ·have hR:bEc s=none:=by unfold bEc;rw[if_neg (fun h=>h10 h.1)]
  rw[hR];have hn:((s.length:Int) != 10)=true:=by simp;omega
  have hs0:Hid (Below w.heap.size w (w.alloc (.cells #[.string ⟨s.toArray⟩] 9))):=aB _ _;go_enter func128,ntmps128;go_wp2;go_ret2;exact⟨⟨3,rfl,by decide⟩,hs0.out⟩
end
section
open Go Go.RowKit Num
theorem bFf.wrote{w w':World}{br:Nat}{b:Bool}(h:bFf w w' br b):aZf (· = br) w w'/\aP w' br #[.bool b] 96:=⟨⟨h.os,h.tape,h.output,h.size,fun k hk hn=>h.block k hn hk⟩,h.box⟩
theorem bG0(br:Nat)(bad:Bool)(s:List UInt8)(w:World)(hE:iE w)(hb:aP w br #[.bool bad] 96)(hl:s.length<=65536):
  Calls prog 190 #[.pointer (some ⟨br,0,none⟩),.string ⟨s.toArray⟩] w fun e w'=>e=.returned (.agg #[.string ⟨((bDm s).getD bD4).n.toArray⟩,.string ⟨((bDm s).getD bD4).d.toArray⟩])/\aZf (· = br) w w'/\aP w' br #[.bool (bad || (bDm s).isNone)] 96:=by
 have HP:=Hd (fun W hE=>bMu s W hE hl);have HE:=Hd hE;have HK0:=Hd (hb.below (aB w (.cells #[.string ⟨#[]⟩,.string ⟨#[]⟩] 25)));have HR0:=Hd (aP.new0 w #[.string ⟨#[]⟩,.string ⟨#[]⟩] 25);have HB0:=Hd (aB w (.cells #[.string ⟨#[]⟩,.string ⟨#[]⟩] 25));have hlt:=hb.1;unfold bLw at HP;clear hb hl hE;generalize bDm s=o at *;generalize o.getD bD4=x at *;obtain⟨xn,xd⟩:=x;dsimp only at *;have hfin:∀(w1:World),Below w.heap.size w w1->aP w1 br #[.bool bad] 96->∀b2:Bool,aZf (· = br) w (((((w1.alloc (.cells #[.string ⟨xn.toArray⟩,.string ⟨xd.toArray⟩] 25)).setCell ⟨br,0,none⟩ (.bool b2)).setCell ⟨w.heap.size,0,none⟩ (.string ⟨xn.toArray⟩)).setCell ⟨w.heap.size,1,none⟩ (.string ⟨xd.toArray⟩)))/\aP (((((w1.alloc (.cells #[.string ⟨xn.toArray⟩,.string ⟨xd.toArray⟩] 25)).setCell ⟨br,0,none⟩ (.bool b2)).setCell ⟨w.heap.size,0,none⟩ (.string ⟨xn.toArray⟩)).setCell ⟨w.heap.size,1,none⟩ (.string ⟨xd.toArray⟩))) br #[.bool b2] 96:=by
  intro w1 h1 hk b2;have hA:Below w.heap.size w (w1.alloc (.cells #[.string ⟨xn.toArray⟩,.string ⟨xd.toArray⟩] 25)):=aA h1 (aB _ _);have hkA:=hk.below (aB w1 (.cells #[.string ⟨xn.toArray⟩,.string ⟨xd.toArray⟩] 25));have hset:∀ {A:World}(p:Addr) (v:Value),w.heap.size<=p.block->aZf (· = br) w A->aZf (· = br) w (A.setCell p v):=fun p v hp h=>h.step (S':=fun k=>k=p.block) (aZf.set _ p v rfl) (fun k hk=>.inr (by rw[hk];exact hp))
  refine⟨hset _ _ (Nl _) (hset _ _ (Nl _) ((aZf.of_below hA).trans (aZf.set _ _ _ rfl))),?_⟩;have h2:=bEq (v:=.bool b2) hkA;have hw:∀ {A:World}(p:Addr) (v:Value),p.block≠br->aP A br #[.bool b2] 96->aP (A.setCell p v) br #[.bool b2] 96:=fun p v hp h=>(aZf.set (S:=fun k=>k=p.block) _ p v rfl).box h (fun e=>hp e.symm)
  exact hw _ _ (by show w.heap.size≠br;omega) (hw _ _ (by show w.heap.size≠br;omega) h2)
 have HFIN:=Hd hfin;clear hfin;cases o <;> cases bad
 all_goals
  simp only[Option.isSome_none,Option.isSome_some,Option.isNone_none,Option.isNone_some,if_true,if_false,Bool.false_eq_true,Bool.or_true,Bool.or_false] at *;go_enter func190,ntmps190;go_wp2_with fail;refine(HP.out _ (HE.out.below HB0.out)).mono ?_;rintro e w1 ⟨rfl,hb1⟩;have K1:=HK0.out.below hb1;have R1:=HR0.out.below hb1;have HB1:=Hd (aA HB0.out hb1);have HF:=Hd (HFIN.out w1 HB1.out K1);have q0:=(K1.below (aB w1 (.cells #[.string ⟨xn.toArray⟩,.string ⟨xd.toArray⟩] 25))).cell 0;have qf:=aR (K1.below (aB w1 (.cells #[.string ⟨xn.toArray⟩,.string ⟨xd.toArray⟩] 25))).2 0;have k0:=K1.cell 0;have kf:=aR K1.2 0;have r0:=R1.cell 0;have r1:=R1.cell 1;have f0:=aR R1.2 0;have f1:=aR R1.2 1;have n1:¬ w.heap.size=br:=by omega
  have n2:¬ br=w.heap.size:=by omega
  have n3:¬ w1.heap.size=br:=by have:=K1.1;omega
  have n4:¬ br=w1.heap.size:=by omega
  have n5:¬ w.heap.size=w1.heap.size:=by have:=R1.1;omega
  have n6:¬ w1.heap.size=w.heap.size:=by omega
  have a0:=(aP.new0 w1 #[.string ⟨xn.toArray⟩,.string ⟨xd.toArray⟩] 25).cell 0;have a1:=(aP.new0 w1 #[.string ⟨xn.toArray⟩,.string ⟨xd.toArray⟩] 25).cell 1;have RA:=R1.below (aB w1 (.cells #[.string ⟨xn.toArray⟩,.string ⟨xd.toArray⟩] 25));have ra0:=RA.cell 0;have ra1:=RA.cell 1;have fa0:=aR RA.2 0;have fa1:=aR RA.2 1;clear hb1 K1 R1 RA;go_wp2;exact bodyPost_ret (v:=.agg #[.string ⟨xn.toArray⟩,.string ⟨xd.toArray⟩]) (by simp[results,results190,go_sem,ra0,ra1]) rfl ⟨rfl,HF.out _⟩
end
section
open Go Go.RowKit Num
theorem bO3(c:UInt8):∀(n:Nat) (l:List UInt8),l.length<=n->(bDb c l).length=Lib.count l [c]+1:=by
 intro n
 induction n with
 |zero =>
  intro l h;have:l=[]:=by simpa using h
  subst this;rfl
 |succ n ih =>
  intro l h;rcases bGt c l with⟨h1,h2⟩|⟨i,h1,h2,h3⟩
  ·rw[Lib.count_miss h1,h2];rfl
  ·rw[Lib.count_hit (by simp) h1,h2,List.length_cons,show [c].length=1 from rfl,ih _ (by simp;omega)];omega
theorem bH0(s:List UInt8)(c:UInt8)(w:World)(hE:iE w)(hl:s.length<4294967281):
  Calls prog 66 #[.string ⟨s.toArray⟩,.string ⟨#[c]⟩] w fun e w'=>e=.returned (.slice (some ⟨w.heap.size,0,none⟩) (bDb c s).length (bDb c s).length)/\w'=w.alloc (.cells (bDf (bDb c s)).toArray 9):=by
 obtain⟨m,hm⟩:=hE.len;refine(strings_Split ⟨s.toArray⟩ ⟨#[c]⟩ m w (by rw[aV];exact hl) hm (Nl 1)).mono ?_;have hc:Lib.countB ⟨s.toArray⟩ ⟨#[c]⟩=Lib.count s [c]:=rfl;have hlen:=bO3 c s.length s (Nl _);have hd:=Lib.splitB_data ⟨#[c]⟩ 0 (Lib.countB ⟨s.toArray⟩ ⟨#[c]⟩) ⟨s.toArray⟩;rw[hc] at hd;have hd2:(Lib.splitB ⟨#[c]⟩ 0 (Lib.count s [c]) ⟨s.toArray⟩).map (·.data.toList)=bDb c s:=hd.trans (bLo c s.length s (Nl _));rintro e w' ⟨rfl,rfl⟩;rw[hc,hlen];refine⟨rfl,?_⟩;rw[<-hd2];unfold bDf;rw[List.map_map];rfl
def bD3(w:World)(vs:List Value)(ls:List (List (List UInt8))):Prop :=
 vs.length=ls.length/\∀(j:Nat) (l:List (List UInt8)),ls[j]?=some l->∃b:Nat,vs[j]?=some (Value.slice (some ⟨b,0,none⟩) l.length l.length)/\aP w b (bDf l).toArray 9
theorem bD3.nil(w:World):bD3 w [] []:=⟨rfl,fun j l h=>by cases h⟩
theorem bD3.wrote{w w':World}{vs:List Value}{ls:List (List (List UInt8))}{S:Nat->Prop}(h:bD3 w vs ls)(hw:aZf S w w')(hS:∀b cs,aP w b cs 9->¬ S b):bD3 w' vs ls :=
 ⟨h.1,fun j l hl=>by
  obtain⟨b,h1,h2⟩:=h.2 j l hl;exact⟨b,h1,hw.box h2 (hS b _ h2)⟩⟩
theorem bD3.below{w w':World}{vs:List Value}{ls:List (List (List UInt8))}(h:bD3 w vs ls)(hw:Below w.heap.size w w'):bD3 w' vs ls:=h.wrote (S:=fun _=>False) (aZf.of_below hw) (fun _ _ _ h=>h)
theorem bD3.snoc{w:World}{vs:List Value}{ls:List (List (List UInt8))}{l:List (List UInt8)}{b:Nat}(h:bD3 w vs ls)(hb:aP w b (bDf l).toArray 9):bD3 w (vs ++ [Value.slice (some ⟨b,0,none⟩) l.length l.length]) (ls ++ [l]):=by
 refine⟨by simp[h.1],fun j l' hl=>?_⟩
 by_cases hj:j<ls.length
 ·rw[List.getElem?_append_left hj] at hl;rw[List.getElem?_append_left (by rw[h.1];exact hj)];exact h.2 j l' hl
 ·rw[List.getElem?_append_right (by omega)] at hl;rw[List.getElem?_append_right (by rw[h.1];omega),h.1];have h0:j-ls.length=0:=by
   have:=(Li.1 hl).1;simp at this;omega
  rw[h0] at hl ⊢;obtain rfl:l=l':=by simpa using hl
  exact⟨b,rfl,hb⟩
theorem bOp:(prog.info? 36).map (fun i=>(i.zero,i.size,i.bytes))=some (some (.slice none 0 0),1,24):=by kernel_rfl
theorem bEo{c:UInt8}:∀ {l x:List UInt8},x∈bDb c l->x.length<=l.length
 | [],x,h=>by
  have:x=[]:=by simpa[bDb] using h
  simp[this]
 |b::r,x,h=>by
  unfold bDb at h;split at h
  ·rcases List.mem_cons.1 h with rfl|h
   ·simp
   ·have:=bEo h;simp;omega
  ·split at h
   ·have:x=[b]:=by simpa using h
    simp[this]
   ·rename_i y t e;rcases List.mem_cons.1 h with rfl|h
    ·have:=bEo (c:=c) (l:=r) (x:=y) (by rw[e];exact List.mem_cons_self);simp;omega
    ·have:=bEo (c:=c) (l:=r) (x:=x) (by rw[e];exact List.mem_cons_of_mem _ h);simp;omega
theorem bFt(c:UInt8):∀l:List UInt8,(bDb c l).length<=l.length+1
 | []=>by simp[bDb]
 |b::r=>by
  have ih:=bFt c r;unfold bDb;split
  ·simp;omega
  ·split
   ·simp
   ·rename_i y t e;rw[e] at ih;simp at ih ⊢;omega
theorem bIi(br:Nat)(bad:Bool)(s:List UInt8)(n:Nat)(w:World)(hE:iE w)(hb:aP w br #[.bool bad] 96)(hl:s.length<=65536):
  Calls prog 191 #[.pointer (some ⟨br,0,none⟩),.string ⟨s.toArray⟩,.int .i64 (n:Int)] w fun e w' =>
   ((∀l,l∈(bDb 44 s).map (bDb 58)->l.length=n)/\∃v vs,e=.returned v/\w'.ownsRow w.heap.size 36 1 v (bDb 44 s).length vs/\bD3 w' vs ((bDb 44 s).map (bDb 58))/\Below w.heap.size w w') ∨
   (¬ (∀l,l∈(bDb 44 s).map (bDb 58)->l.length=n)/\e=.returned (.slice none 0 0)/\aZf (· = br) w w'/\aP w' br #[.bool true] 96):=by
 obtain⟨i0,hi,hz0,hz1,hz2⟩:=info_parts bOp;have HINF:=Hd (And.intro hi (And.intro hz0 (And.intro hz1 hz2)));have HE:=Hd hE;have HSP:=Hd (bH0 s 44 w hE (by omega));have HS2:Hid (∀x,x∈bDb 44 s->∀W,Below w.heap.size w W->Calls prog 66 #[.string ⟨x.toArray⟩,.string ⟨#[58]⟩] W fun e w'=>e=.returned (.slice (some ⟨W.heap.size,0,none⟩) (bDb 58 x).length (bDb 58 x).length)/\w'=W.alloc (.cells (bDf (bDb 58 x)).toArray 9)):=fun x hx W hW=>bH0 x 58 W (hE.below hW) (by have:=bEo hx;omega)
 have hcount:(bDb 44 s).length<=65537:=Nat.le_trans (bFt 44 s) (by omega);have HK:=Hd hb;have hbl:=hb.1;clear hE hb hl hi hz0 hz1 hz2;generalize bDb 44 s=ws at *;have K1:=Hd (HK.out.below (aB w (.cells (bDf ws).toArray 9)));have KW:=Hd (aP.new0 w (bDf ws).toArray 9);have HB1:=Hd (aB w (.cells (bDf ws).toArray 9));have HZ1:Hid ((w.alloc (.cells (bDf ws).toArray 9)).heap.size=w.heap.size+1):=World.size_alloc _ _;go_enter func191,ntmps191;go_wp2_with fail;refine HSP.out.mono ?_;rintro e w1 ⟨rfl,hw1⟩;rw[<-hw1] at K1 KW HB1 HZ1;clear hw1;go_wp2_with fail;go_loopw [7,14] (fun ov iv wr=>∃k:Nat,k<=ws.length/\iv=.int .i64 (k:Int)/\Hid (∀l,l∈(ws.take k).map (bDb 58)->l.length=n)/\∃vs,Hid (wr.ownsRow (w.heap.size+1) 36 1 ov k vs)/\Hid (bD3 wr vs ((ws.take k).map (bDb 58)))/\Hid (Below (w.heap.size+1) w1 wr)) (fun _ iv _=>ws.length-(intOf iv).toNat)
 case atStart=>exact⟨0,Nat.zero_le _,rfl,fun l hl=>by simp at hl,[],World.ownsRow_nil _ _ _ _,bD3.nil _,Br _ _⟩
 case round =>
  obtain⟨k,hk,rfl,HALL,vs,HO,HPA,HB⟩:=hrel
  by_cases hlt:k<ws.length
  ·obtain⟨x,hx⟩:∃x,ws[k]?=some x:=⟨ws[k],Lg hlt⟩
   have hsz:w.heap.size+1<=wr.heap.size:=by have:=HB.out.size;have:=HZ1.out;omega
   have c0:wr.cell? ⟨w.heap.size,k,none⟩=some (.string ⟨x.toArray⟩):=by
    refine(HB.out.cell (p:=⟨w.heap.size,k,none⟩) (Nat.lt_succ_self _)).trans ((KW.out.cell k).trans ?_);simp[bDf,hx]
   have HBW:Hid (Below w.heap.size w wr):=HB1.out.trans (HB.out.mono (Nat.le_succ _));have HSX:=Hd (HS2.out x (List.mem_of_getElem? hx) wr HBW.out);have HTK:Hid ((ws.take (k+1)).map (bDb 58)=(ws.take k).map (bDb 58) ++ [bDb 58 x]):=by show _=_;rw[List.take_add_one,hx];simp
   have HMEM:Hid (bDb 58 x∈ws.map (bDb 58)):=List.mem_map.2 ⟨x,List.mem_of_getElem? hx,rfl⟩;clear hx;generalize bDb 58 x=l at *;have KL:=Hd (aP.new0 wr (bDf l).toArray 9);have HBL:=Hd (aB wr (.cells (bDf l).toArray 9));have HZL:Hid ((wr.alloc (.cells (bDf l).toArray 9)).heap.size=wr.heap.size+1):=World.size_alloc _ _;go_wp2_with fail;refine HSX.out.mono ?_;rintro e w2 ⟨rfl,hw2⟩;rw[<-hw2] at KL HBL HZL;have HO2:=Hd (bDu HO.out HBL.out);have HPA2:=Hd (HPA.out.below HBL.out);have HBW2:=Hd (HB.out.trans (HBL.out.mono hsz));clear hw2 HO HPA
   by_cases hn:l.length=n
   ·have hnb:((l.length:Int) != (n:Int))=false:=by simp;omega
    have HALL2:Hid (∀l',l'∈(ws.take (k+1)).map (bDb 58)->l'.length=n):=by
     intro l' hl';rw[HTK.out] at hl';rcases List.mem_append.1 hl' with h|h
     ·exact HALL.out l' h
     ·obtain rfl:l'=l:=by simpa using h
      exact hn
    have HSZ2:Hid (w.heap.size+1<=w2.heap.size):=by have:=HZL.out;show _<=_;omega
    clear hn HALL;go_wp2_with (at_builtin;refine wpList_append_own_at _ rfl _ _ 193 rfl (w.heap.size+1) 36 i0 (.slice none 0 0) 1 24 underlying193 HINF.out.1 HINF.out.2.1 HINF.out.2.2.1 HINF.out.2.2.2 rfl (by decide) _ _ _ rfl (HO2.out.alloc _) ⟨w2.heap.size,0,none⟩ 1 1 [.slice (some ⟨wr.heap.size,0,none⟩) l.length l.length] rfl rfl (fun j u hj=>aUb w2 #[.slice (some ⟨wr.heap.size,0,none⟩) l.length l.length] _ j u hj) (by simp[Value.oneCell']) (by unfold maxLen;omega) (by omega) (by rw[World.size_alloc];have:=HSZ2.out;omega) ?_;intro v' w3 hown' hgrow _ hob;have HOW:=Hd hown';have HGR:=Hd hgrow;clear hown' hgrow hob);have hb3:Below (w.heap.size+1) w1 w3:=(HBW2.out.trans ((aB w2 _).mono HSZ2.out)).grown HGR.out (by rw[World.size_alloc];have:=HSZ2.out;omega) (fun q hq=>((HO2.out.alloc (.cells #[.slice (some ⟨wr.heap.size,0,none⟩) l.length l.length] 36)).lt q hq).1);have HB3:=Hd hb3;have hpa:=(HPA2.out.snoc KL.out).below (aB w2 (.cells #[.slice (some ⟨wr.heap.size,0,none⟩) l.length l.length] 36));have hpa3:=hpa.wrote (w':=w3) (aZf.grown HGR.out (fun q hq=>hq)) (fun b cs hbx e=>bC0 hbx (by decide) (HO2.out.alloc (.cells #[.slice (some ⟨wr.heap.size,0,none⟩) l.length l.length] 36)) e);rw[<-HTK.out] at hpa3;have HPA3:=Hd hpa3;clear hb3 hpa hpa3 HGR;go_wp2;go_roundw
    case rel=>exact⟨k+1,by omega,by go_num,HALL2,_,HOW,HPA3,HB3⟩
    case measure=>simp[intOf];omega
   ·have hnb:((l.length:Int) != (n:Int))=true:=by simp;omega
    have HNO:Hid (¬ ∀l,l∈ws.map (bDb 58)->l.length=n):=fun h=>hn (h l HMEM.out)
    have KB:=(K1.out.below (HB.out.mono (by have:=HZ1.out;omega))).below HBL.out;have b0:=KB.cell 0;have bf:=aR KB.2 0;have HFB:=Hd (bEq (v:=.bool true) KB);have HWR:Hid (aZf (· = br) w (w2.setCell ⟨br,0,none⟩ (.bool true))):=(aZf.of_below (aA HBW.out HBL.out)).trans (aZf.set _ _ _ rfl);clear hn KB;go_wp2;go_ret;exact .inr ⟨HNO.out,rfl,HWR.out,HFB.out⟩
  ·obtain rfl:k=ws.length:=by omega
   rw[List.take_length] at HALL HPA;go_wp2;go_ret;exact .inl ⟨HALL.out,_,vs,rfl,Ck HO.out (Nat.le_succ _),HPA.out,HB1.out.trans (HB.out.mono (Nat.le_succ _))⟩
end
end Go.Proofs.YthjekgfoidmagaaGreatDoor
