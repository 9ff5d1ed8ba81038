/- WList WList2 -/
import Derived.Test.YtiloklnjjfaagaaGreatDoorVM
set_option maxHeartbeats 16000000
set_option maxRecDepth 100000
namespace Go.Proofs.YtiloklnjjfaagaaGreatDoor
open Go.Proofs.Tryz
section
open Go Go.RowKit Num
attribute [local go_sem] eW eN aV
structure dKj(d wash:Int):Prop where
 d0:-25567<=d
 d1:d<=84005
 w0:0<=wash
 w1:wash<=366
theorem dEs{ls:List Bd}{gs:List aLe}{d wash:Int}{ss:List (List UInt8)}(h:dEk ls gs d wash ss=0):bZp ls/\(∀x,x∈gs->x.err=0)/\dKj d wash:=by
 unfold dEk at h;split at h
 ·cases h
 rename_i h1;split at h
 ·cases h
 split at h
 ·cases h
 split at h
 ·cases h
 refine⟨(dB2 ls).1 (Classical.byContradiction fun e=>h1 (.inl e)),fun x hx=>?_,by omega,by omega,by omega,by omega⟩;refine Classical.byContradiction fun e=>h1 (.inr (List.any_eq_true.2 ⟨x,hx,?_⟩))
 unfold aLe.bad;simpa using e
theorem dJk{w:World}{a:Option Addr}{zs:List Int}(h:dT w a (zs.map (Value.int .i64))):Mx w a zs:=by
 rcases h with h|⟨b,off,ha,hl,hc⟩
 ·exact .inl (by simpa using h)
 ·refine .inr ⟨b,off,ha,hl,fun k z hz=>?_⟩;exact hc k _ (by rw[List.getElem?_map,hz];rfl)
noncomputable def dDj(gs:List aLe)(ins:List UInt8)(d wash:Int):List Int:=if dEk [] gs d wash []=0 then dEe (fun x=>dAv x ins d wash) gs 0 else[]
theorem dDw{x:aLe}(h:x.err=0):-100000<=x.cls/\x.cls<=100000:=by have:=bZy.1 (bY2.1 h).2.1.2;omega
theorem dJ8(gs:List aLe)(a:Option Addr)(c:Nat)(ins:List UInt8)(d wash:Int)(w:World)(hE:iE w)(hn:gs.length<=1000000)(hw:aL3 w a gs)(hs:∀x,x∈gs->x.wide):
  Calls prog 21 #[.slice a gs.length c,.string ⟨ins.toArray⟩,.int .i64 d,.int .i64 wash] w fun e w'=>(∃v,e=.returned (.tuple #[v,.int .i64 (dEk [] gs d wash [])])/\w'.ownsRow w.heap.size 3 1 v (dDj gs ins d wash).length ((dDj gs ins d wash).map (Value.int .i64)))/\Below w.heap.size w w':=by
 have HC:=Hd (dGi [] gs none 0 a c d wash [] none 0 w hE (by simp) (fun _ h=>by cases h) hn hs (by simp) (fun _ h=>by cases h) (.inl rfl) hw (.inl rfl));have HR:Hid (dDj gs ins d wash=if dEk [] gs d wash []=0 then dEe (fun x=>dAv x ins d wash) gs 0 else[]):=rfl;have HW:=Hd hw;have HS:=Hd hs;have HE:=Hd hE;have HZ:=Hd (fun h=>dEs (ls:=[]) (gs:=gs) (d:=d) (wash:=wash) (ss:=[]) h);obtain⟨i0,hi,hz0,hz1,hz2⟩:=info_parts aO7;clear hE hw hs;generalize dEk [] gs d wash []=ck at *;generalize dDj gs ins d wash=rr at *;simp only[List.length_nil] at HC;go_enter func21,ntmps21;go_wp2_with fail;refine HC.out.mono ?_;rintro e w1 ⟨rfl,hb⟩;have HB1:=Hd hb;clear hb HC
 by_cases g:ck=0
 case neg =>
  have g':(ck==0)=false:=by simpa using g
  obtain rfl:rr=[]:=by rw[HR.out,if_neg g]
  clear HR;go_wp2;go_ret2;exact⟨⟨_,rfl,World.ownsRow_nil _ _ _ _⟩,HB1.out⟩
 subst g;obtain⟨_,hgx,hin⟩:=HZ.out rfl;have HGX:=Hd hgx;have HIN:=Hd hin;have HR2:Hid (rr=dEe (fun x=>dAv x ins d wash) gs 0):=by show _=_;rw[HR.out,if_pos rfl]
 clear HR;clear hgx hin HZ;go_wp2;go_loopw [11,23] (fun ov iv W=>Hid (Below w.heap.size w W)/\∃k:Nat,k<=gs.length/\iv=.int .i64 (k:Int)/\Hid (W.ownsRow w.heap.size 3 1 ov (dEe (fun x=>dAv x ins d wash) (gs.take k) 0).length ((dEe (fun x=>dAv x ins d wash) (gs.take k) 0).map (Value.int .i64)))) (fun _ iv _=>gs.length-(intOf iv).toNat)
 case atStart=>exact⟨HB1,0,Nat.zero_le _,rfl,World.ownsRow_nil _ _ _ _⟩
 case round =>
  clear HB1;obtain⟨HB,k,hk,rfl,HO⟩:=hrel
  by_cases hlt:k<gs.length
  ·obtain⟨x,hx⟩:∃x,gs[k]?=some x:=⟨gs[k],Lg hlt⟩
   obtain⟨b,off,ha,k0,k1,k2,k3,k4,k5,k6,k7,k8,k9⟩:=(HW.out.below HB.out).addr hx;subst ha;have wx:=HS.out x (List.mem_of_getElem? hx);have HD:=Hd (fun W hW=>dGh x ins d wash W hW (by have:=wx.2.2.2.1;omega) (by have:=wx.2.2.2.2.1;omega) (by have:=wx.2.2.2.2.2.1;omega) (by have:=wx.2.2.2.2.2.2.2;omega) (dDw (HGX.out x (List.mem_of_getElem? hx))) (by have:=HIN.out.w0;have:=HIN.out.w1;omega));have HK:=Hd (dIm (fun x=>dAv x ins d wash) hx);have HFL:Hid ((dEe (fun x=>dAv x ins d wash) (gs.take k) 0).length<=k):=Nat.le_trans (dHl _ _ _) (by simp;omega);have HBX:=Hd (aA HB.out (aB wr (.cells #[.string ⟨x.cause.toArray⟩,.string ⟨x.lot.toArray⟩,.string ⟨x.ins.toArray⟩,.int .i64 x.acq,.int .i64 x.cls,.string ⟨x.q.toArray⟩,.string ⟨x.p.toArray⟩,.string ⟨x.c.toArray⟩,.string ⟨x.df.toArray⟩,.string ⟨x.rp.toArray⟩] 42)));have HOX:=Hd (HO.out.alloc (.cells #[.string ⟨x.cause.toArray⟩,.string ⟨x.lot.toArray⟩,.string ⟨x.ins.toArray⟩,.int .i64 x.acq,.int .i64 x.cls,.string ⟨x.q.toArray⟩,.string ⟨x.p.toArray⟩,.string ⟨x.c.toArray⟩,.string ⟨x.df.toArray⟩,.string ⟨x.rp.toArray⟩] 42));clear hx wx HO HB;simp only[aLe.v,aLe.cs] at HD;generalize dAv x ins d wash=bx at *;obtain⟨s',hs'⟩:∃s',s'=dEe (fun x=>dAv x ins d wash) (gs.take (k+1)) 0:=⟨_,rfl⟩
   rw[<-hs'] at HK;have HS':=Hd hs';clear hs';generalize dEe (fun x=>dAv x ins d wash) (gs.take k) 0=s at *;go_wp2_with fail;generalize wr.alloc _=w0 at *;refine(HD.out _ (HE.out.below HBX.out)).mono ?_;rintro e w2 ⟨rfl,hb⟩;have HB:=Hd (aA HBX.out hb);have HO:=Hd ((dCk.of_below _ hb).owns HOX.out);have HSZ:=Hd HB.out.size;clear k0 k1 k2 k3 k4 k5 k6 k7 k8 k9 hb HOX HBX HD;cases bx with
   |true =>
    have HK2:Hid (s'=s ++ [(k:Int)]):=by have h:=HK.out;rw[if_pos rfl] at h;exact h
    clear HK;have hfl:=HFL.out;go_wp2_with (at_builtin;refine wpList_append_own_at _ rfl _ _ 52 rfl w.heap.size 3 i0 (.int .i64 0) 1 8 underlying52 hi hz0 hz1 hz2 rfl (by decide) _ _ _ rfl (HO.out.alloc _) ⟨w2.heap.size,0,none⟩ 1 1 [.int .i64 (k:Int)] rfl rfl (cell_one_new _ _ _) (by simp[Value.oneCell']) (by unfold maxLen;omega) (by omega) (by have:=HSZ.out;simp;omega) ?_);intro v' w3 hown' hgrow _ _;have HB3:=Hd (Ut (HO.out.alloc (.cells #[.int .i64 (k:Int)] 3)) hgrow (aA HB.out (aB _ _)) (by have:=HSZ.out;simp;omega));have HO3:Hid (w3.ownsRow w.heap.size 3 1 v' s'.length (s'.map (Value.int .i64))):=by
     show World.ownsRow _ _ _ _ _ _ _;rw[HK2.out];simpa using hown'
    clear hgrow hown';go_wp2;go_roundw
    case rel=>exact⟨HB3,k+1,by omega,by go_num,(by rw[<-HS'.out];exact HO3)⟩
    case measure=>simp[intOf];omega
   |false =>
    obtain rfl:s'=s:=by have h:=HK.out;rw[if_neg (by decide)] at h;exact h
    clear HK;go_wp2;go_roundw
    case rel=>exact⟨HB,k+1,by omega,by go_num,(by rw[<-HS'.out];exact HO)⟩
    case measure=>simp[intOf];omega
  ·obtain rfl:k=gs.length:=by omega
   rw[List.take_length] at HO;go_wp2;go_ret2;rw[HR2.out];exact⟨⟨_,rfl,HO.out⟩,HB.out⟩
noncomputable def dC2(gs:List aLe)(ins:List UInt8):List UInt8:=if dEk [] gs 0 0 []=0 then aJ (bXk (dBq ins) gs) else[]
theorem dJ2(gs:List aLe)(a:Option Addr)(c:Nat)(ins:List UInt8)(w:World)(hE:iE w)(hn:gs.length<=1000000)(hw:aL3 w a gs)(hs:∀x,x∈gs->x.wide):
  Calls prog 19 #[.slice a gs.length c,.string ⟨ins.toArray⟩] w fun e w'=>e=.returned (.tuple #[.string ⟨(dC2 gs ins).toArray⟩,.int .i64 (dEk [] gs 0 0 [])])/\Below w.heap.size w w':=by
 have HC:=Hd (dGi [] gs none 0 a c 0 0 [] none 0 w hE (by simp) (fun _ h=>by cases h) hn hs (by simp) (fun _ h=>by cases h) (.inl rfl) hw (.inl rfl));have HR:Hid (dC2 gs ins=if dEk [] gs 0 0 []=0 then aJ (bXk (dBq ins) gs) else[]):=rfl;have HW:=Hd hw;have HS:=Hd hs;have HE:=Hd hE;clear hE hw hs;generalize dEk [] gs 0 0 []=ck at *;generalize dC2 gs ins=rr at *;simp only[List.length_nil] at HC;go_enter func19,ntmps19;go_wp2_with fail;refine HC.out.mono ?_;rintro e w1 ⟨rfl,hb⟩;have HB1:=Hd hb;clear hb HC
 by_cases g:ck=0
 case neg =>
  have g':(ck==0)=false:=by simpa using g
  have HR:Hid (rr=[]):=by show _=_;rw[HR.out,if_neg g]
  obtain rfl:=HR.out;go_wp2;go_ret2;exact⟨rfl,HB1.out⟩
 subst g;have HR2:Hid (rr=aJ (bXk (dBq ins) gs)):=by show _=_;rw[HR.out,if_pos rfl]
 clear HR;go_wp2;go_loopw [7,17] (fun t i W=>Hid (Below w.heap.size w W)/\∃k:Nat,k<=gs.length/\i=.int .i64 (k:Int)/\∃st:List UInt8,t=.string ⟨st.toArray⟩/\Hid (st=aJ (bXk (dBq ins) (gs.take k)))/\st.length<=1000+2*k) (fun _ i _=>gs.length-(intOf i).toNat)
 case atStart=>exact⟨HB1,0,Nat.zero_le _,rfl,[],rfl,nA.symm,by simp⟩
 case round =>
  clear HB1;obtain⟨hB,k,hk,rfl,st,rfl,hst,hsl⟩:=hrel
  by_cases hlt:k<gs.length
  ·obtain⟨x,hx⟩:∃x,gs[k]?=some x:=⟨gs[k],Lg hlt⟩
   obtain⟨b,off,ha,k0,k1,k2,k3,k4,k5,k6,k7,k8,k9⟩:=(HW.out.below hB.out).addr hx;subst ha;have hfx:=(HS.out x (List.mem_of_getElem? hx)).2.2.2.2.2.2.1;have HA:=Hd (fun W hW=>aAg st x.df W hW (by omega) (by omega));have hl6:=aPa (l:=st) (m:=x.df) (K:=1000+2*k) (by omega) (by omega);have HT:=Hd (dIj (dBq ins) hx);have HDX:Hid (dBq ins x=if x.ins=ins then val x.df else 0):=rfl;have HB:=Hd (aA hB.out (aB wr (.cells #[.string ⟨x.cause.toArray⟩,.string ⟨x.lot.toArray⟩,.string ⟨x.ins.toArray⟩,.int .i64 x.acq,.int .i64 x.cls,.string ⟨x.q.toArray⟩,.string ⟨x.p.toArray⟩,.string ⟨x.c.toArray⟩,.string ⟨x.df.toArray⟩,.string ⟨x.rp.toArray⟩] 42)));clear hx
   by_cases hq:x.ins=ins
   ·have HSS:Hid (aJ (val st+val x.df)=aJ (bXk (dBq ins) (gs.take (k+1)))):=by
     show _=_;rw[HT.out,hst.out,bE,HDX.out,if_pos hq]
    have hq':(x.ins==ins)=true:=by simpa using hq
    clear HT HDX hq;go_wp2_with fail;generalize wr.alloc _=w0 at *;refine(HA.out _ (HE.out.below HB.out)).mono ?_;rintro e w3 ⟨rfl,hb⟩;have HB:=Hd (aA HB.out hb);clear hb HA k0 k1 k2 k3 k4 k5 k6 k7 k8 k9;go_wp2;go_round
    case rel=>exact⟨HB,k+1,by omega,by go_num,_,rfl,HSS,by omega⟩
    case measure=>simp[intOf];omega
   ·have HSS:Hid (st=aJ (bXk (dBq ins) (gs.take (k+1)))):=by
     show _=_;rw[HT.out,HDX.out,if_neg hq,Int.add_zero];exact hst.out
    have hq':(x.ins==ins)=false:=by simpa using hq
    clear HT HDX HA;go_wp2;go_round
    case rel=>exact⟨HB,k+1,by omega,by go_num,_,rfl,HSS,by omega⟩
    case measure=>simp[intOf];omega
  ·obtain rfl:k=gs.length:=by omega
   have HP:Hid (st=rr):=by show _=_;rw[hst.out,List.take_length,HR2.out]
   obtain rfl:=HP.out;go_wp2;go_ret2;exact⟨rfl,hB.out⟩
noncomputable def dJ1(x:aLe):List UInt8:=if x.err=0 then aJ x.openV else[]
theorem dKh(x:aLe)(w:World)(hE:iE w)(hs:x.wide):
  Calls prog 22 #[x.v] w fun e w'=>e=.returned (.tuple #[.string ⟨(dJ1 x).toArray⟩,.int .i64 (if x.err=0 then 0 else 1)])/\Below w.heap.size w w':=by
 have HR:Hid (dJ1 x=if x.err=0 then aJ x.openV else[]):=rfl;obtain⟨z,hz⟩:∃z,z=(if x.err=0 then(0:Int) else 1):=⟨_,rfl⟩
 rw[<-hz];have HZ:=Hd hz;have HB:=Hd (aB w (.cells x.cs 42));have KB:=Hd (aP.new0 w x.cs 42);have H:=Hd (fun W hW=>dD4 x W hW hs);have H2:=Hd (fun W hW=>dFp x W hW (by have:=hs.2.2.2.1;omega) (by have:=hs.2.2.2.2.1;omega) (by have:=hs.2.2.2.2.2.1;omega) (by have:=hs.2.2.2.2.2.2.2;omega));have HE:=Hd hE;clear hE hs hz;generalize x.err=er at *;generalize dJ1 x=rr at *;generalize aJ x.openV=oo at *;simp only[aLe.v,aLe.cs] at *
 by_cases g:er=0
 ·obtain rfl:rr=oo:=by rw[HR.out,if_pos g]
  obtain rfl:z=0:=by rw[HZ.out,if_pos g]
  clear HR HZ;subst g;go_enter func22,ntmps22;go_wp2_with fail;generalize w.alloc _=w0 at *;refine(H.out _ (HE.out.below HB.out)).mono ?_;rintro e w1 ⟨rfl,hb⟩;have HB:=Hd (aA HB.out hb);have KB:=KB.out.below hb;have c0:=KB.cell 0;have c1:=KB.cell 1;have c2:=KB.cell 2;have c3:=KB.cell 3;have c4:=KB.cell 4;have c5:=KB.cell 5;have c6:=KB.cell 6;have c7:=KB.cell 7;have c8:=KB.cell 8;have c9:=KB.cell 9;clear hb KB;go_wp2_with fail;refine(H2.out _ (HE.out.below HB.out)).mono ?_;rintro e w2 ⟨rfl,hb⟩;go_wp2;go_ret2;exact⟨rfl,aA HB.out hb⟩
 ·obtain rfl:rr=[]:=by rw[HR.out,if_neg g]
  obtain rfl:z=1:=by rw[HZ.out,if_neg g]
  clear HR HZ;have g':(er==0)=false:=by simpa using g
  go_enter func22,ntmps22;go_wp2_with fail;generalize w.alloc _=w0 at *;refine(H.out _ (HE.out.below HB.out)).mono ?_;rintro e w1 ⟨rfl,hb⟩;go_wp2;go_ret2;exact⟨rfl,aA HB.out hb⟩
end
section
open Go Go.RowKit Num
attribute [local go_sem] eW eN aV
noncomputable def dIq(ls:List Bd)(x:aLe)(d wash:Int):List Int:=if dEk ls [x] d wash []=0 then(if dAv x x.ins d wash=true then dEe (fun y=>dAz y x d wash) ls 0 else[]) else[]
theorem dJh(ls:List Bd)(x:aLe)(a:Option Addr)(c:Nat)(d wash:Int)(w:World)(hE:iE w)(hn:ls.length<=1000000)(hw:Jj w a ls)(hs:∀y,y∈ls->y.small)(wx:x.wide):
  Calls prog 23 #[.slice a ls.length c,x.v,.int .i64 d,.int .i64 wash] w fun e w'=>(∃v,e=.returned (.tuple #[v,.int .i64 (dEk ls [x] d wash [])])/\w'.ownsRow w.heap.size 3 1 v (dIq ls x d wash).length ((dIq ls x d wash).map (Value.int .i64))/\(dIq ls x d wash=[]->v=.slice none 0 0))/\Below w.heap.size w w':=by
 obtain⟨w1,h1⟩:∃w1,w1=w.alloc (.cells x.cs 42):=⟨_,rfl⟩
 obtain⟨w2,h2⟩:∃w2,w2=w1.alloc (.cells x.cs 42):=⟨_,rfl⟩
 have e1:w1.heap.size=w.heap.size+1:=by rw[h1,World.size_alloc]
 have b2:Below w1.heap.size w1 w2:=by rw[h2];exact aB _ _
 have k1:aP w2 w.heap.size x.cs 42:=(h1 ▸ aP.new0 w _ _:aP w1 w.heap.size _ _).below b2;have k2:aP w2 (w.heap.size+1) x.cs 42:=by rw[<-e1];exact h2 ▸ aP.new0 w1 _ _
 have hb:Below w.heap.size w w2:=aA (h1 ▸ aB _ _) b2;have HC:=Hd (dGi ls [x] a c (some ⟨w.heap.size+1,0,none⟩) 1 d wash [] none 0 w2 (hE.below hb) hn hs (by simp) (fun y hy=>by rw[List.mem_singleton.1 hy];exact wx) (by simp) (fun _ h=>by cases h) (hw.below hb) (dGv k2) (.inl rfl));have HR:Hid (dIq ls x d wash=if dEk ls [x] d wash []=0 then(if dAv x x.ins d wash=true then dEe (fun y=>dAz y x d wash) ls 0 else[]) else[]):=rfl;have KX:=Hd k1;have HB:=Hd hb;have HW:=Hd hw;have HS:=Hd hs;have HE:=Hd hE;have HZ:=Hd (fun h=>dEs (ls:=ls) (gs:=[x]) (d:=d) (wash:=wash) (ss:=[]) h);have HQ:Hid (w2=(w.alloc (.cells x.cs 42)).alloc (.cells x.cs 42)):=by show _=_;rw[h2,h1]
 have HD:=Hd (fun (hin:dKj d wash) (gx:x.err=0) W hW=>dGh x x.ins d wash W hW (by have:=wx.2.2.2.1;omega) (by have:=wx.2.2.2.2.1;omega) (by have:=wx.2.2.2.2.2.1;omega) (by have:=wx.2.2.2.2.2.2.2;omega) (dDw gx) (by have:=hin.w0;have:=hin.w1;omega));have HRP:=Hd (fun (hin:dKj d wash) (gx:x.err=0) (y:Bd) (sy:y.small) W hW=>dE5 y x d wash W hW sy.2.2.1 sy.2.2.2.2 (dDw gx) (by have:=hin.w0;have:=hin.w1;omega));obtain⟨i0,hi,hz0,hz1,hz2⟩:=info_parts aO7;clear hE hw hs h1 h2 e1 b2 k1 k2 hb w1;generalize dEk ls [x] d wash []=ck at *;generalize dIq ls x d wash=rr at *;simp only[aLe.v,aLe.cs,List.length_nil,List.length_cons,Nat.zero_add] at *;go_enter func23,ntmps23;go_wp2_with fail;rw[<-HQ.out];refine HC.out.mono ?_;rintro e w3 ⟨rfl,hb⟩;have HB1:=Hd (aA HB.out hb);have KX3:=Hd (KX.out.below hb);clear hb HC HQ HB KX w2
 by_cases g:ck=0
 case neg =>
  have g':(ck==0)=false:=by simpa using g
  have HRn:Hid (rr=[]):=by show _=_;rw[HR.out,if_neg g]
  clear HR;go_wp2;go_ret2;rw[HRn.out];exact⟨⟨_,rfl,World.ownsRow_nil _ _ _ _,fun _=>rfl⟩,HB1.out⟩
 subst g;obtain⟨_,hgx,hin⟩:=HZ.out rfl;have gx:x.err=0:=hgx x (List.mem_singleton.2 rfl);have HR2:Hid (rr=if dAv x x.ins d wash=true then dEe (fun y=>dAz y x d wash) ls 0 else[]):=by show _=_;rw[HR.out,if_pos rfl]
 clear HR;have HD:=Hd (HD.out hin gx);have HRP:=Hd (fun y hy=>HRP.out hin gx y (HS.out y hy));clear hgx hin gx HZ HS;generalize dAv x x.ins d wash=db at *;have c0:=KX3.out.cell 0;have c1:=KX3.out.cell 1;have c2:=KX3.out.cell 2;have c3:=KX3.out.cell 3;have c4:=KX3.out.cell 4;have c5:=KX3.out.cell 5;have c6:=KX3.out.cell 6;have c7:=KX3.out.cell 7;have c8:=KX3.out.cell 8;have c9:=KX3.out.cell 9;go_wp2_with fail;refine(HD.out _ (HE.out.below HB1.out)).mono ?_;rintro e w4 ⟨rfl,hb⟩;have HB4:=Hd (aA HB1.out hb);have KX:=Hd (KX3.out.below hb);clear hb HD HB1 KX3 c0 c1 c2 c3 c4 c5 c6 c7 c8 c9;cases db with
 |false =>
  have HRn:Hid (rr=[]):=by show _=_;rw[HR2.out,if_neg (by decide)]
  clear HR2;go_wp2;go_ret2;rw[HRn.out];exact⟨⟨_,rfl,World.ownsRow_nil _ _ _ _,fun _=>rfl⟩,HB4.out⟩
 |true =>
  have HR3:Hid (rr=dEe (fun y=>dAz y x d wash) ls 0):=by show _=_;rw[HR2.out,if_pos rfl]
  clear HR2;go_wp2;go_loopw [11,32] (fun ov iv W=>Hid (Below w.heap.size w W)/\Hid (aP W w.heap.size #[.string ⟨x.cause.toArray⟩,.string ⟨x.lot.toArray⟩,.string ⟨x.ins.toArray⟩,.int .i64 x.acq,.int .i64 x.cls,.string ⟨x.q.toArray⟩,.string ⟨x.p.toArray⟩,.string ⟨x.c.toArray⟩,.string ⟨x.df.toArray⟩,.string ⟨x.rp.toArray⟩] 42)/\∃k:Nat,k<=ls.length/\iv=.int .i64 (k:Int)/\Hid (W.ownsRow (w.heap.size+1) 3 1 ov (dEe (fun y=>dAz y x d wash) (ls.take k) 0).length ((dEe (fun y=>dAz y x d wash) (ls.take k) 0).map (Value.int .i64)))/\Hid (dEe (fun y=>dAz y x d wash) (ls.take k) 0=[]->ov=.slice none 0 0)) (fun _ iv _=>ls.length-(intOf iv).toNat)
  case atStart=>exact⟨HB4,KX,0,Nat.zero_le _,rfl,World.ownsRow_nil _ _ _ _,fun _=>rfl⟩
  case round =>
   clear HB4 KX;obtain⟨HB,KX,k,hk,rfl,HO,HNL⟩:=hrel
   by_cases hlt:k<ls.length
   ·obtain⟨y,hy⟩:∃y,ls[k]?=some y:=⟨ls[k],Lg hlt⟩
    obtain⟨b,off,ha,k0,k1,k2,k3,k4,k5,k6⟩:=(HW.out.below HB.out).addr hy;subst ha;have HP:=Hd (HRP.out y (List.mem_of_getElem? hy));have HK:=Hd (dIm (fun y=>dAz y x d wash) hy);have HFL:Hid ((dEe (fun y=>dAz y x d wash) (ls.take k) 0).length<=k):=Nat.le_trans (dHl _ _ _) (by simp;omega);have hba:=aB wr (.cells #[.string ⟨y.id.toArray⟩,.string ⟨y.ins.toArray⟩,.int .i64 y.acq,.int .i64 y.opn,.string ⟨y.q.toArray⟩,.string ⟨y.c.toArray⟩,.string ⟨y.u.toArray⟩] 49);have HBX:=Hd (aA HB.out hba);have HOX:=Hd (HO.out.alloc (.cells #[.string ⟨y.id.toArray⟩,.string ⟨y.ins.toArray⟩,.int .i64 y.acq,.int .i64 y.opn,.string ⟨y.q.toArray⟩,.string ⟨y.c.toArray⟩,.string ⟨y.u.toArray⟩] 49));have KX2:=Hd (KX.out.below hba);have c0:=KX.out.cell 0;have c1:=KX.out.cell 1;have c2:=KX.out.cell 2;have c3:=KX.out.cell 3;have c4:=KX.out.cell 4;have c5:=KX.out.cell 5;have c6:=KX.out.cell 6;have c7:=KX.out.cell 7;have c8:=KX.out.cell 8;have c9:=KX.out.cell 9;have hlw:w.heap.size<wr.heap.size:=KX.out.1;clear hy HO HB hba KX;simp only[Bd.v] at HP;generalize dAz y x d wash=bx at *;obtain⟨s',hs'⟩:∃s',s'=dEe (fun y=>dAz y x d wash) (ls.take (k+1)) 0:=⟨_,rfl⟩
    rw[<-hs'] at HK;have HS':=Hd hs';clear hs';generalize dEe (fun y=>dAz y x d wash) (ls.take k) 0=s at *;go_wp2_with fail;generalize wr.alloc _=w0 at *;refine(HP.out _ (HE.out.below HBX.out)).mono ?_;rintro e w2 ⟨rfl,hb⟩;have HB:=Hd (aA HBX.out hb);have HO:=Hd ((dCk.of_below _ hb).owns HOX.out);have KX:=Hd (KX2.out.below hb);have HSZ:=Hd KX.out.1;clear k0 k1 k2 k3 k4 k5 k6 c0 c1 c2 c3 c4 c5 c6 c7 c8 c9 hb HOX HBX HP KX2 hlw;cases bx with
    |true =>
     have HK2:Hid (s'=s ++ [(k:Int)]):=by have h:=HK.out;rw[if_pos rfl] at h;exact h
     clear HK;have hfl:=HFL.out;go_wp2_with (at_builtin;refine wpList_append_own_at _ rfl _ _ 52 rfl (w.heap.size+1) 3 i0 (.int .i64 0) 1 8 underlying52 hi hz0 hz1 hz2 rfl (by decide) _ _ _ rfl (HO.out.alloc _) ⟨w2.heap.size,0,none⟩ 1 1 [.int .i64 (k:Int)] rfl rfl (cell_one_new _ _ _) (by simp[Value.oneCell']) (by unfold maxLen;omega) (by omega) (by have:=HSZ.out;simp;omega) ?_);intro v' w3 hown' hgrow _ _;have hb3:Below (w.heap.size+1) w2 w3:=Ut (HO.out.alloc (.cells #[.int .i64 (k:Int)] 3)) hgrow ((aB _ _).mono (by have:=HSZ.out;omega)) (by have:=HSZ.out;simp;omega);have HB3:=Hd (HB.out.trans (hb3.mono (Nat.le_succ _)));have KX3:=Hd (KX.out.overW hb3 (Nat.lt_succ_self _));have HO3:Hid (w3.ownsRow (w.heap.size+1) 3 1 v' s'.length (s'.map (Value.int .i64))):=by
      show World.ownsRow _ _ _ _ _ _ _;rw[HK2.out];simpa using hown'
     clear hgrow hown' hb3;go_wp2;go_roundw
     case rel=>exact⟨HB3,KX3,k+1,by omega,by go_num,(by rw[<-HS'.out];exact HO3),(by rw[<-HS'.out];show _->_;intro h;rw[HK2.out] at h;simp at h)⟩
     case measure=>simp[intOf];omega
    |false =>
     obtain rfl:s'=s:=by have h:=HK.out;rw[if_neg (by decide)] at h;exact h
     clear HK;go_wp2;go_roundw
     case rel=>exact⟨HB,KX,k+1,by omega,by go_num,(by rw[<-HS'.out];exact HO),(by rw[<-HS'.out];exact HNL)⟩
     case measure=>simp[intOf];omega
   ·obtain rfl:k=ls.length:=by omega
    rw[List.take_length] at HO HNL;go_wp2;go_ret2;rw[HR3.out];exact⟨⟨_,rfl,dDt HO.out (Nat.le_succ _),HNL.out⟩,HB.out⟩
noncomputable def dJ0(y:Bd):List UInt8:=if y.err=0 then aJ y.roomV else[]
theorem dKg(y:Bd)(w:World)(hE:iE w)(hs:y.small):
  Calls prog 35 #[y.v] w fun e w'=>e=.returned (.tuple #[.string ⟨(dJ0 y).toArray⟩,.int .i64 (if y.err=0 then 0 else 1)])/\Below w.heap.size w w':=by
 have HR:Hid (dJ0 y=if y.err=0 then aJ y.roomV else[]):=rfl;obtain⟨z,hz⟩:∃z,z=(if y.err=0 then(0:Int) else 1):=⟨_,rfl⟩
 rw[<-hz];have HZ:=Hd hz;have HB:=Hd (aB w (.cells y.cs 49));have KB:=Hd (aP.new0 w y.cs 49);have H:=Hd (fun W hW=>aMm y W hW (by have:=hs.1;omega) (by have:=hs.2.1;omega) (by have:=hs.2.2.1;omega) (by have:=hs.2.2.2.1;omega) (by have:=hs.2.2.2.2;omega));have H2:=Hd (fun W hW=>dFo y W hW hs.2.2.1 hs.2.2.2.2);have HE:=Hd hE;clear hE hs hz;generalize y.err=er at *;generalize dJ0 y=rr at *;generalize aJ y.roomV=oo at *;simp only[Bd.v,Bd.cs] at *
 by_cases g:er=0
 ·obtain rfl:rr=oo:=by rw[HR.out,if_pos g]
  obtain rfl:z=0:=by rw[HZ.out,if_pos g]
  clear HR HZ;subst g;go_enter func35,ntmps35;go_wp2_with fail;generalize w.alloc _=w0 at *;refine(H.out _ (HE.out.below HB.out)).mono ?_;rintro e w1 ⟨rfl,hb⟩;have HB:=Hd (aA HB.out hb);have KB:=KB.out.below hb;have c0:=KB.cell 0;have c1:=KB.cell 1;have c2:=KB.cell 2;have c3:=KB.cell 3;have c4:=KB.cell 4;have c5:=KB.cell 5;have c6:=KB.cell 6;clear hb KB;go_wp2_with fail;refine(H2.out _ (HE.out.below HB.out)).mono ?_;rintro e w2 ⟨rfl,hb⟩;go_wp2;go_ret2;exact⟨rfl,aA HB.out hb⟩
 ·obtain rfl:rr=[]:=by rw[HR.out,if_neg g]
  obtain rfl:z=1:=by rw[HZ.out,if_neg g]
  clear HR HZ;have g':(er==0)=false:=by simpa using g
  go_enter func35,ntmps35;go_wp2_with fail;generalize w.alloc _=w0 at *;refine(H.out _ (HE.out.below HB.out)).mono ?_;rintro e w1 ⟨rfl,hb⟩;go_wp2;go_ret2;exact⟨rfl,aA HB.out hb⟩
end
end Go.Proofs.YtiloklnjjfaagaaGreatDoor
