/- WList WList2 WLawQ -/
import Derived.Test.YtiloklnjjfaagaaGreatDoorVM
set_option maxHeartbeats 16000000
set_option maxRecDepth 100000
namespace Go.Proofs.YtiloklnjjfaagaaGreatDoor
open Go.Proofs.Tryz
section
open Go Go.RowKit Num
attribute [local go_sem] eW eN aV
structure dJ0(d wash:Int):Prop where
 d0:-25567<=d
 d1:d<=84005
 w0:0<=wash
 w1:wash<=366
theorem dI9{ls:List Bd}{gs:List aLe}{d wash:Int}{ss:List (List UInt8)}(h:dEk ls gs d wash ss=0):bZp ls/\(∀x,x∈gs->x.err=0)/\dJ0 d wash:=by
 unfold dEk at h;split at h
 ·cases h
 rename_i h1;split at h
 ·cases h
 split at h
 ·cases h
 split at h
 ·cases h
 refine⟨(dB2 ls).1 (Classical.byContradiction fun e=>h1 (.inl e)),fun x hx=>?_,by omega,by omega,by omega,by omega⟩;refine Classical.byContradiction fun e=>h1 (.inr (List.any_eq_true.2 ⟨x,hx,?_⟩))
 unfold aLe.bad;simpa using e
theorem dKm{w:World}{a:Option Addr}{zs:List Int}(h:dT w a (zs.map (Value.int .i64))):Mx w a zs:=by
 rcases h with h|⟨b,off,ha,hl,hc⟩
 ·exact .inl (by simpa using h)
 ·refine .inr ⟨b,off,ha,hl,fun k z hz=>?_⟩;exact hc k _ (by rw[List.getElem?_map,hz];rfl)
noncomputable def dDw(gs:List aLe)(ins:List UInt8)(d wash:Int):List Int:=if dEk [] gs d wash []=0 then dEe (fun x=>dAv x ins d wash) gs 0 else[]
theorem dIr{x:aLe}(h:x.err=0):-100000<=x.cls/\x.cls<=100000:=by have:=bZy.1 (bY2.1 h).2.1.2;omega
theorem dJs(gs:List aLe)(a:Option Addr)(c:Nat)(ins:List UInt8)(d wash:Int)(w:World)(hE:iE w)(hn:gs.length<=1000000)(hw:aL3 w a gs)(hs:∀x,x∈gs->x.wide):
  Calls prog 21 #[.slice a gs.length c,.string ⟨ins.toArray⟩,.int .i64 d,.int .i64 wash] w fun e w'=>(∃v,e=.returned (.tuple #[v,.int .i64 (dEk [] gs d wash [])])/\w'.ownsRow w.heap.size 3 1 v (dDw gs ins d wash).length ((dDw gs ins d wash).map (Value.int .i64)))/\Below w.heap.size w w':=by
 have HC:=Hd (dGi [] gs none 0 a c d wash [] none 0 w hE (by simp) (fun _ h=>by cases h) hn hs (by simp) (fun _ h=>by cases h) (.inl rfl) hw (.inl rfl));have HR:Hid (dDw gs ins d wash=if dEk [] gs d wash []=0 then dEe (fun x=>dAv x ins d wash) gs 0 else[]):=rfl;have HW:=Hd hw;have HS:=Hd hs;have HE:=Hd hE;have HZ:=Hd (fun h=>dI9 (ls:=[]) (gs:=gs) (d:=d) (wash:=wash) (ss:=[]) h);obtain⟨i0,hi,hz0,hz1,hz2⟩:=info_parts aO7;clear hE hw hs;generalize dEk [] gs d wash []=ck at *;generalize dDw gs ins d wash=rr at *;simp only[List.length_nil] at HC;go_enter func21,ntmps21;go_wp2_with fail;refine HC.out.mono ?_;rintro e w1 ⟨rfl,hb⟩;have HB1:=Hd hb;clear hb HC
 by_cases g:ck=0
 case neg =>
  have g':(ck==0)=false:=by simpa using g
  obtain rfl:rr=[]:=by rw[HR.out,if_neg g]
  clear HR;go_wp2;go_ret2;exact⟨⟨_,rfl,World.ownsRow_nil _ _ _ _⟩,HB1.out⟩
 subst g;obtain⟨_,hgx,hin⟩:=HZ.out rfl;have HGX:=Hd hgx;have HIN:=Hd hin;have HR2:Hid (rr=dEe (fun x=>dAv x ins d wash) gs 0):=by show _=_;rw[HR.out,if_pos rfl]
 clear HR;clear hgx hin HZ;go_wp2;go_loopw [11,23] (fun ov iv W=>Hid (Below w.heap.size w W)/\∃k:Nat,k<=gs.length/\iv=.int .i64 (k:Int)/\Hid (W.ownsRow w.heap.size 3 1 ov (dEe (fun x=>dAv x ins d wash) (gs.take k) 0).length ((dEe (fun x=>dAv x ins d wash) (gs.take k) 0).map (Value.int .i64)))) (fun _ iv _=>gs.length-(intOf iv).toNat)
 case atStart=>exact⟨HB1,0,Nat.zero_le _,rfl,World.ownsRow_nil _ _ _ _⟩
 case round =>
  clear HB1;obtain⟨HB,k,hk,rfl,HO⟩:=hrel
  by_cases hlt:k<gs.length
  ·obtain⟨x,hx⟩:∃x,gs[k]?=some x:=⟨gs[k],Lg hlt⟩
   obtain⟨b,off,ha,k0,k1,k2,k3,k4,k5,k6,k7,k8,k9⟩:=(HW.out.below HB.out).addr hx;subst ha;have wx:=HS.out x (List.mem_of_getElem? hx);have HD:=Hd (fun W hW=>dGh x ins d wash W hW (by have:=wx.2.2.2.1;omega) (by have:=wx.2.2.2.2.1;omega) (by have:=wx.2.2.2.2.2.1;omega) (by have:=wx.2.2.2.2.2.2.2;omega) (dIr (HGX.out x (List.mem_of_getElem? hx))) (by have:=HIN.out.w0;have:=HIN.out.w1;omega));have HK:=Hd (dIm (fun x=>dAv x ins d wash) hx);have HFL:Hid ((dEe (fun x=>dAv x ins d wash) (gs.take k) 0).length<=k):=Nat.le_trans (dHl _ _ _) (by simp;omega);have HBX:=Hd (aA HB.out (aB wr (.cells #[.string ⟨x.cause.toArray⟩,.string ⟨x.lot.toArray⟩,.string ⟨x.ins.toArray⟩,.int .i64 x.acq,.int .i64 x.cls,.string ⟨x.q.toArray⟩,.string ⟨x.p.toArray⟩,.string ⟨x.c.toArray⟩,.string ⟨x.df.toArray⟩,.string ⟨x.rp.toArray⟩] 42)));have HOX:=Hd (HO.out.alloc (.cells #[.string ⟨x.cause.toArray⟩,.string ⟨x.lot.toArray⟩,.string ⟨x.ins.toArray⟩,.int .i64 x.acq,.int .i64 x.cls,.string ⟨x.q.toArray⟩,.string ⟨x.p.toArray⟩,.string ⟨x.c.toArray⟩,.string ⟨x.df.toArray⟩,.string ⟨x.rp.toArray⟩] 42));clear hx wx HO HB;simp only[aLe.v,aLe.cs] at HD;generalize dAv x ins d wash=bx at *;obtain⟨s',hs'⟩:∃s',s'=dEe (fun x=>dAv x ins d wash) (gs.take (k+1)) 0:=⟨_,rfl⟩
   rw[<-hs'] at HK;have HS':=Hd hs';clear hs';generalize dEe (fun x=>dAv x ins d wash) (gs.take k) 0=s at *;go_wp2_with fail;generalize wr.alloc _=w0 at *;refine(HD.out _ (HE.out.below HBX.out)).mono ?_;rintro e w2 ⟨rfl,hb⟩;have HB:=Hd (aA HBX.out hb);have HO:=Hd ((dCk.of_below _ hb).owns HOX.out);have HSZ:=Hd HB.out.size;clear k0 k1 k2 k3 k4 k5 k6 k7 k8 k9 hb HOX HBX HD;cases bx with
   |true =>
    have HK2:Hid (s'=s ++ [(k:Int)]):=by have h:=HK.out;rw[if_pos rfl] at h;exact h
    clear HK;have hfl:=HFL.out;go_wp2_with (at_builtin;refine wpList_append_own_at _ rfl _ _ 52 rfl w.heap.size 3 i0 (.int .i64 0) 1 8 underlying52 hi hz0 hz1 hz2 rfl (by decide) _ _ _ rfl (HO.out.alloc _) ⟨w2.heap.size,0,none⟩ 1 1 [.int .i64 (k:Int)] rfl rfl (cell_one_new _ _ _) (by simp[Value.oneCell']) (by unfold maxLen;omega) (by omega) (by have:=HSZ.out;simp;omega) ?_);intro v' w3 hown' hgrow _ _;have HB3:=Hd (Ut (HO.out.alloc (.cells #[.int .i64 (k:Int)] 3)) hgrow (aA HB.out (aB _ _)) (by have:=HSZ.out;simp;omega));have HO3:Hid (w3.ownsRow w.heap.size 3 1 v' s'.length (s'.map (Value.int .i64))):=by
     show World.ownsRow _ _ _ _ _ _ _;rw[HK2.out];simpa using hown'
    clear hgrow hown';go_wp2;go_roundw
    case rel=>exact⟨HB3,k+1,by omega,by go_num,(by rw[<-HS'.out];exact HO3)⟩
    case measure=>simp[intOf];omega
   |false =>
    obtain rfl:s'=s:=by have h:=HK.out;rw[if_neg (by decide)] at h;exact h
    clear HK;go_wp2;go_roundw
    case rel=>exact⟨HB,k+1,by omega,by go_num,(by rw[<-HS'.out];exact HO)⟩
    case measure=>simp[intOf];omega
  ·obtain rfl:k=gs.length:=by omega
   rw[List.take_length] at HO;go_wp2;go_ret2;rw[HR2.out];exact⟨⟨_,rfl,HO.out⟩,HB.out⟩
noncomputable def dJx(x:aLe):List UInt8:=if x.err=0 then aJ x.openV else[]
theorem dKf(x:aLe)(w:World)(hE:iE w)(hs:x.wide):
  Calls prog 22 #[x.v] w fun e w'=>e=.returned (.tuple #[.string ⟨(dJx x).toArray⟩,.int .i64 (if x.err=0 then 0 else 1)])/\Below w.heap.size w w':=by
 have HR:Hid (dJx x=if x.err=0 then aJ x.openV else[]):=rfl;obtain⟨z,hz⟩:∃z,z=(if x.err=0 then(0:Int) else 1):=⟨_,rfl⟩
 rw[<-hz];have HZ:=Hd hz;have HB:=Hd (aB w (.cells x.cs 42));have KB:=Hd (aP.new0 w x.cs 42);have H:=Hd (fun W hW=>dD4 x W hW hs);have H2:=Hd (fun W hW=>dFp x W hW (by have:=hs.2.2.2.1;omega) (by have:=hs.2.2.2.2.1;omega) (by have:=hs.2.2.2.2.2.1;omega) (by have:=hs.2.2.2.2.2.2.2;omega));have HE:=Hd hE;clear hE hs hz;generalize x.err=er at *;generalize dJx x=rr at *;generalize aJ x.openV=oo at *;simp only[aLe.v,aLe.cs] at *
 by_cases g:er=0
 ·obtain rfl:rr=oo:=by rw[HR.out,if_pos g]
  obtain rfl:z=0:=by rw[HZ.out,if_pos g]
  clear HR HZ;subst g;go_enter func22,ntmps22;go_wp2_with fail;generalize w.alloc _=w0 at *;refine(H.out _ (HE.out.below HB.out)).mono ?_;rintro e w1 ⟨rfl,hb⟩;have HB:=Hd (aA HB.out hb);have KB:=KB.out.below hb;have c0:=KB.cell 0;have c1:=KB.cell 1;have c2:=KB.cell 2;have c3:=KB.cell 3;have c4:=KB.cell 4;have c5:=KB.cell 5;have c6:=KB.cell 6;have c7:=KB.cell 7;have c8:=KB.cell 8;have c9:=KB.cell 9;clear hb KB;go_wp2_with fail;refine(H2.out _ (HE.out.below HB.out)).mono ?_;rintro e w2 ⟨rfl,hb⟩;go_wp2;go_ret2;exact⟨rfl,aA HB.out hb⟩
 ·obtain rfl:rr=[]:=by rw[HR.out,if_neg g]
  obtain rfl:z=1:=by rw[HZ.out,if_neg g]
  clear HR HZ;have g':(er==0)=false:=by simpa using g
  go_enter func22,ntmps22;go_wp2_with fail;generalize w.alloc _=w0 at *;refine(H.out _ (HE.out.below HB.out)).mono ?_;rintro e w1 ⟨rfl,hb⟩;go_wp2;go_ret2;exact⟨rfl,aA HB.out hb⟩
end
section
open Go Go.RowKit Num
attribute [local go_sem] eW eN aV
noncomputable def dJh(ls:List Bd)(x:aLe)(d wash:Int):List Int:=if dEk ls [x] d wash []=0 then(if dAv x x.ins d wash=true then dEe (fun y=>dAz y x d wash) ls 0 else[]) else[]
theorem dIo(ls:List Bd)(x:aLe)(a:Option Addr)(c:Nat)(d wash:Int)(w:World)(hE:iE w)(hn:ls.length<=1000000)(hw:Jj w a ls)(hs:∀y,y∈ls->y.small)(wx:x.wide):
  Calls prog 23 #[.slice a ls.length c,x.v,.int .i64 d,.int .i64 wash] w fun e w'=>(∃v,e=.returned (.tuple #[v,.int .i64 (dEk ls [x] d wash [])])/\w'.ownsRow w.heap.size 3 1 v (dJh ls x d wash).length ((dJh ls x d wash).map (Value.int .i64))/\(dJh ls x d wash=[]->v=.slice none 0 0))/\Below w.heap.size w w':=by
 obtain⟨w1,h1⟩:∃w1,w1=w.alloc (.cells x.cs 42):=⟨_,rfl⟩
 obtain⟨w2,h2⟩:∃w2,w2=w1.alloc (.cells x.cs 42):=⟨_,rfl⟩
 have e1:w1.heap.size=w.heap.size+1:=by rw[h1,World.size_alloc]
 have b2:Below w1.heap.size w1 w2:=by rw[h2];exact aB _ _
 have k1:aP w2 w.heap.size x.cs 42:=(h1 ▸ aP.new0 w _ _:aP w1 w.heap.size _ _).below b2;have k2:aP w2 (w.heap.size+1) x.cs 42:=by rw[<-e1];exact h2 ▸ aP.new0 w1 _ _
 have hb:Below w.heap.size w w2:=aA (h1 ▸ aB _ _) b2;have HC:=Hd (dGi ls [x] a c (some ⟨w.heap.size+1,0,none⟩) 1 d wash [] none 0 w2 (hE.below hb) hn hs (by simp) (fun y hy=>by rw[List.mem_singleton.1 hy];exact wx) (by simp) (fun _ h=>by cases h) (hw.below hb) (dGv k2) (.inl rfl));have HR:Hid (dJh ls x d wash=if dEk ls [x] d wash []=0 then(if dAv x x.ins d wash=true then dEe (fun y=>dAz y x d wash) ls 0 else[]) else[]):=rfl;have KX:=Hd k1;have HB:=Hd hb;have HW:=Hd hw;have HS:=Hd hs;have HE:=Hd hE;have HZ:=Hd (fun h=>dI9 (ls:=ls) (gs:=[x]) (d:=d) (wash:=wash) (ss:=[]) h);have HQ:Hid (w2=(w.alloc (.cells x.cs 42)).alloc (.cells x.cs 42)):=by show _=_;rw[h2,h1]
 have HD:=Hd (fun (hin:dJ0 d wash) (gx:x.err=0) W hW=>dGh x x.ins d wash W hW (by have:=wx.2.2.2.1;omega) (by have:=wx.2.2.2.2.1;omega) (by have:=wx.2.2.2.2.2.1;omega) (by have:=wx.2.2.2.2.2.2.2;omega) (dIr gx) (by have:=hin.w0;have:=hin.w1;omega));have HRP:=Hd (fun (hin:dJ0 d wash) (gx:x.err=0) (y:Bd) (sy:y.small) W hW=>dE5 y x d wash W hW sy.2.2.1 sy.2.2.2.2 (dIr gx) (by have:=hin.w0;have:=hin.w1;omega));obtain⟨i0,hi,hz0,hz1,hz2⟩:=info_parts aO7;clear hE hw hs h1 h2 e1 b2 k1 k2 hb w1;generalize dEk ls [x] d wash []=ck at *;generalize dJh ls x d wash=rr at *;simp only[aLe.v,aLe.cs,List.length_nil,List.length_cons,Nat.zero_add] at *;go_enter func23,ntmps23;go_wp2_with fail;rw[<-HQ.out];refine HC.out.mono ?_;rintro e w3 ⟨rfl,hb⟩;have HB1:=Hd (aA HB.out hb);have KX3:=Hd (KX.out.below hb);clear hb HC HQ HB KX w2
 by_cases g:ck=0
 case neg =>
  have g':(ck==0)=false:=by simpa using g
  have HRn:Hid (rr=[]):=by show _=_;rw[HR.out,if_neg g]
  clear HR;go_wp2;go_ret2;rw[HRn.out];exact⟨⟨_,rfl,World.ownsRow_nil _ _ _ _,fun _=>rfl⟩,HB1.out⟩
 subst g;obtain⟨_,hgx,hin⟩:=HZ.out rfl;have gx:x.err=0:=hgx x (List.mem_singleton.2 rfl);have HR2:Hid (rr=if dAv x x.ins d wash=true then dEe (fun y=>dAz y x d wash) ls 0 else[]):=by show _=_;rw[HR.out,if_pos rfl]
 clear HR;have HD:=Hd (HD.out hin gx);have HRP:=Hd (fun y hy=>HRP.out hin gx y (HS.out y hy));clear hgx hin gx HZ HS;generalize dAv x x.ins d wash=db at *;have c0:=KX3.out.cell 0;have c1:=KX3.out.cell 1;have c2:=KX3.out.cell 2;have c3:=KX3.out.cell 3;have c4:=KX3.out.cell 4;have c5:=KX3.out.cell 5;have c6:=KX3.out.cell 6;have c7:=KX3.out.cell 7;have c8:=KX3.out.cell 8;have c9:=KX3.out.cell 9;go_wp2_with fail;refine(HD.out _ (HE.out.below HB1.out)).mono ?_;rintro e w4 ⟨rfl,hb⟩;have HB4:=Hd (aA HB1.out hb);have KX:=Hd (KX3.out.below hb);clear hb HD HB1 KX3 c0 c1 c2 c3 c4 c5 c6 c7 c8 c9;cases db with
 |false =>
  have HRn:Hid (rr=[]):=by show _=_;rw[HR2.out,if_neg (by decide)]
  clear HR2;go_wp2;go_ret2;rw[HRn.out];exact⟨⟨_,rfl,World.ownsRow_nil _ _ _ _,fun _=>rfl⟩,HB4.out⟩
 |true =>
  have HR3:Hid (rr=dEe (fun y=>dAz y x d wash) ls 0):=by show _=_;rw[HR2.out,if_pos rfl]
  clear HR2;go_wp2;go_loopw [11,32] (fun ov iv W=>Hid (Below w.heap.size w W)/\Hid (aP W w.heap.size #[.string ⟨x.cause.toArray⟩,.string ⟨x.lot.toArray⟩,.string ⟨x.ins.toArray⟩,.int .i64 x.acq,.int .i64 x.cls,.string ⟨x.q.toArray⟩,.string ⟨x.p.toArray⟩,.string ⟨x.c.toArray⟩,.string ⟨x.df.toArray⟩,.string ⟨x.rp.toArray⟩] 42)/\∃k:Nat,k<=ls.length/\iv=.int .i64 (k:Int)/\Hid (W.ownsRow (w.heap.size+1) 3 1 ov (dEe (fun y=>dAz y x d wash) (ls.take k) 0).length ((dEe (fun y=>dAz y x d wash) (ls.take k) 0).map (Value.int .i64)))/\Hid (dEe (fun y=>dAz y x d wash) (ls.take k) 0=[]->ov=.slice none 0 0)) (fun _ iv _=>ls.length-(intOf iv).toNat)
  case atStart=>exact⟨HB4,KX,0,Nat.zero_le _,rfl,World.ownsRow_nil _ _ _ _,fun _=>rfl⟩
  case round =>
   clear HB4 KX;obtain⟨HB,KX,k,hk,rfl,HO,HNL⟩:=hrel
   by_cases hlt:k<ls.length
   ·obtain⟨y,hy⟩:∃y,ls[k]?=some y:=⟨ls[k],Lg hlt⟩
    obtain⟨b,off,ha,k0,k1,k2,k3,k4,k5,k6⟩:=(HW.out.below HB.out).addr hy;subst ha;have HP:=Hd (HRP.out y (List.mem_of_getElem? hy));have HK:=Hd (dIm (fun y=>dAz y x d wash) hy);have HFL:Hid ((dEe (fun y=>dAz y x d wash) (ls.take k) 0).length<=k):=Nat.le_trans (dHl _ _ _) (by simp;omega);have hba:=aB wr (.cells #[.string ⟨y.id.toArray⟩,.string ⟨y.ins.toArray⟩,.int .i64 y.acq,.int .i64 y.opn,.string ⟨y.q.toArray⟩,.string ⟨y.c.toArray⟩,.string ⟨y.u.toArray⟩] 49);have HBX:=Hd (aA HB.out hba);have HOX:=Hd (HO.out.alloc (.cells #[.string ⟨y.id.toArray⟩,.string ⟨y.ins.toArray⟩,.int .i64 y.acq,.int .i64 y.opn,.string ⟨y.q.toArray⟩,.string ⟨y.c.toArray⟩,.string ⟨y.u.toArray⟩] 49));have KX2:=Hd (KX.out.below hba);have c0:=KX.out.cell 0;have c1:=KX.out.cell 1;have c2:=KX.out.cell 2;have c3:=KX.out.cell 3;have c4:=KX.out.cell 4;have c5:=KX.out.cell 5;have c6:=KX.out.cell 6;have c7:=KX.out.cell 7;have c8:=KX.out.cell 8;have c9:=KX.out.cell 9;have hlw:w.heap.size<wr.heap.size:=KX.out.1;clear hy HO HB hba KX;simp only[Bd.v] at HP;generalize dAz y x d wash=bx at *;obtain⟨s',hs'⟩:∃s',s'=dEe (fun y=>dAz y x d wash) (ls.take (k+1)) 0:=⟨_,rfl⟩
    rw[<-hs'] at HK;have HS':=Hd hs';clear hs';generalize dEe (fun y=>dAz y x d wash) (ls.take k) 0=s at *;go_wp2_with fail;generalize wr.alloc _=w0 at *;refine(HP.out _ (HE.out.below HBX.out)).mono ?_;rintro e w2 ⟨rfl,hb⟩;have HB:=Hd (aA HBX.out hb);have HO:=Hd ((dCk.of_below _ hb).owns HOX.out);have KX:=Hd (KX2.out.below hb);have HSZ:=Hd KX.out.1;clear k0 k1 k2 k3 k4 k5 k6 c0 c1 c2 c3 c4 c5 c6 c7 c8 c9 hb HOX HBX HP KX2 hlw;cases bx with
    |true =>
     have HK2:Hid (s'=s ++ [(k:Int)]):=by have h:=HK.out;rw[if_pos rfl] at h;exact h
     clear HK;have hfl:=HFL.out;go_wp2_with (at_builtin;refine wpList_append_own_at _ rfl _ _ 52 rfl (w.heap.size+1) 3 i0 (.int .i64 0) 1 8 underlying52 hi hz0 hz1 hz2 rfl (by decide) _ _ _ rfl (HO.out.alloc _) ⟨w2.heap.size,0,none⟩ 1 1 [.int .i64 (k:Int)] rfl rfl (cell_one_new _ _ _) (by simp[Value.oneCell']) (by unfold maxLen;omega) (by omega) (by have:=HSZ.out;simp;omega) ?_);intro v' w3 hown' hgrow _ _;have hb3:Below (w.heap.size+1) w2 w3:=Ut (HO.out.alloc (.cells #[.int .i64 (k:Int)] 3)) hgrow ((aB _ _).mono (by have:=HSZ.out;omega)) (by have:=HSZ.out;simp;omega);have HB3:=Hd (HB.out.trans (hb3.mono (Nat.le_succ _)));have KX3:=Hd (KX.out.overW hb3 (Nat.lt_succ_self _));have HO3:Hid (w3.ownsRow (w.heap.size+1) 3 1 v' s'.length (s'.map (Value.int .i64))):=by
      show World.ownsRow _ _ _ _ _ _ _;rw[HK2.out];simpa using hown'
     clear hgrow hown' hb3;go_wp2;go_roundw
     case rel=>exact⟨HB3,KX3,k+1,by omega,by go_num,(by rw[<-HS'.out];exact HO3),(by rw[<-HS'.out];show _->_;intro h;rw[HK2.out] at h;simp at h)⟩
     case measure=>simp[intOf];omega
    |false =>
     obtain rfl:s'=s:=by have h:=HK.out;rw[if_neg (by decide)] at h;exact h
     clear HK;go_wp2;go_roundw
     case rel=>exact⟨HB,KX,k+1,by omega,by go_num,(by rw[<-HS'.out];exact HO),(by rw[<-HS'.out];exact HNL)⟩
     case measure=>simp[intOf];omega
   ·obtain rfl:k=ls.length:=by omega
    rw[List.take_length] at HO HNL;go_wp2;go_ret2;rw[HR3.out];exact⟨⟨_,rfl,dDt HO.out (Nat.le_succ _),HNL.out⟩,HB.out⟩
end
section
open Go Go.RowKit Num
attribute [local go_sem] eW eN aV
def dKd(W:World)(d:Int)(cause ins:List UInt8)(z:Int)(ea:Option Addr)(en:Nat):Prop :=
 (z=0/\ea=none/\en=0)∨(z≠0/\en=1/\∃be bt,ea=some ⟨be,0,none⟩/\aP W bt #[.string ⟨#[97,109,111,117,110,116]⟩,.string ⟨(aJ z).toArray⟩] 65 /\
  aP W be #[.int .i64 5,.int .i64 d,.string ⟨cause.toArray⟩,.string ⟨ins.toArray⟩,.string ⟨#[]⟩,.string ⟨#[]⟩,.slice (some ⟨bt,0,none⟩) 1 1] 62)
theorem dKd.below{W W':World}{d:Int}{cause ins:List UInt8}{z:Int}{ea:Option Addr}{en:Nat}(h:dKd W d cause ins z ea en)(hb:Below W.heap.size W W'):dKd W' d cause ins z ea en:=by
 rcases h with h|⟨h,e,be,bt,h1,h2,h3⟩
 ·exact .inl h
 ·exact .inr ⟨h,e,be,bt,h1,h2.below hb,h3.below hb⟩
structure dJz(W:World)(B0:Nat)(d:Int)(cause ins:List UInt8)(t:bWs)(la:Option Addr)(lc:Nat)(ga:Option Addr)(gc:Nat)(sa:Option Addr)(sc:Nat)(ea:Option Addr)(en ec:Nat):Prop where
 lcap:t.lots.length<=lc
 lots:Jj W la t.lots
 gcap:t.gains.length<=gc
 gains:aL3 W ga t.gains
 steps:W.ownsRow B0 45 6 (.slice sa t.steps.length sc) t.steps.length (dAf bZ9.cs t.steps)
 eff:dKd W d cause ins t.sum ea en
theorem dJz.below{W W':World}{B0:Nat}{d:Int}{cause ins:List UInt8}{t:bWs}{la:Option Addr}{lc:Nat}{ga:Option Addr}{gc:Nat}{sa:Option Addr}{sc:Nat}{ea:Option Addr}{en ec:Nat}(h:dJz W B0 d cause ins t la lc ga gc sa sc ea en ec)(hb:Below W.heap.size W W'):dJz W' B0 d cause ins t la lc ga gc sa sc ea en ec :=
 ⟨h.lcap,h.lots.below hb,h.gcap,h.gains.below hb,(dCk.of_below _ hb).owns h.steps,h.eff.below hb⟩
theorem dJw{W:World}{B0:Nat}{d:Int}{cause ins:List UInt8}{t:bWs}{v:Value}(h:dJc W B0 d cause ins t v):
  ∃la lc ga gc sa sc ea en ec,v=.agg #[.slice la t.lots.length lc,.slice ga t.gains.length gc,.slice sa t.steps.length sc,.slice ea en ec]/\dJz W B0 d cause ins t la lc ga gc sa sc ea en ec:=by
 obtain⟨lv,gv,tv,ev,rfl,hl,hg,hs,he⟩:=h;obtain⟨la,lc,rfl,h1,h2⟩:=dDb hl;obtain⟨ga,gc,rfl,h3,h4⟩:=dDu hg;obtain⟨sa,sc,rfl⟩:=dD0 hs;rcases he with⟨h5,rfl⟩|⟨h5,be,bt,rfl,_,_,h6,h7⟩
 ·exact⟨la,lc,ga,gc,sa,sc,none,0,0,rfl,h1,h2,h3,h4,hs,.inl ⟨h5,rfl,rfl⟩⟩
 ·exact⟨la,lc,ga,gc,sa,sc,some ⟨be,0,none⟩,1,1,rfl,h1,h2,h3,h4,hs,.inr ⟨h5,rfl,be,bt,rfl,h6,h7⟩⟩
def dKe(ls:List Bd)(gs:List aLe)(cause ins:List UInt8)(d wash:Int)(B0:Nat)(e:Ending)(W:World):Prop :=
 (∃z:Int,z≠0/\e=.returned (.tuple #[.agg #[.slice none 0 0,.slice none 0 0,.slice none 0 0,.slice none 0 0],.int .i64 z])) ∨
  ∃t la lc ga gc sa sc ea en ec,dD9 ins d wash cause ls gs t/\dJ0 d wash/\dC ins=true/\e=.returned (.tuple #[.agg #[.slice la t.lots.length lc,.slice ga t.gains.length gc,.slice sa t.steps.length sc,.slice ea en ec],.int .i64 0])/\dJz W B0 d cause ins t la lc ga gc sa sc ea en ec
theorem dKn{ls:List Bd}{gs:List aLe}{cause ins:List UInt8}{d wash chk:Int}{B0:Nat}{e:Ending}{W:World}(hc:chk=0->bZm ins d wash cause ⟨ls,gs,[],0⟩ 0 none∨(dAw ⟨ls,gs,[],0⟩/\dC cause=true/\dD8 ⟨ls,gs,[],0⟩)/\dJ0 d wash/\dC ins=true)
  (h:(chk≠0/\e=.returned (.tuple #[.agg dDz,.int .i64 chk]))∨(chk=0/\∃r,bZm ins d wash cause ⟨ls,gs,[],0⟩ 0 r/\ApR W B0 d cause ins r e)):dKe ls gs cause ins d wash B0 e W:=by
 rcases h with⟨h1,h2⟩|⟨h1,r,h2,h3⟩
 ·exact .inl ⟨chk,h1,h2⟩
 ·cases r with
  |none=>exact .inl ⟨4,by decide,h3⟩
  |some t =>
   rcases hc h1 with hn|⟨⟨h4,h5,h6⟩,h7,h7b⟩
   ·exact absurd (h2.uniq _ hn) (by simp)
   ·obtain⟨v,rfl,h8⟩:=h3;obtain⟨la,lc,ga,gc,sa,sc,ea,en,ec,rfl,h9⟩:=dJw h8;exact .inr ⟨t,la,lc,ga,gc,sa,sc,ea,en,ec,⟨h2,h4,h5,h6⟩,h7,h7b,rfl,h9⟩
theorem dIq(ls:List Bd)(gs:List aLe)(la:Option Addr)(lc:Nat)(ga:Option Addr)(gc:Nat)(cause ins:List UInt8)(d wash:Int)(w:World)(hE:iE w)(S:dIh ls gs)(hL:Jj w la ls)(hG:aL3 w ga gs)(hc:cause.length<=9223372036854775807)(hi:ins.length<=9223372036854775807):
  Calls prog 11 #[.slice la ls.length lc,.slice ga gs.length gc,.string ⟨cause.toArray⟩,.int .i64 d,.string ⟨ins.toArray⟩,.int .i64 wash] w fun e W'=>dKe ls gs cause ins d wash w.heap.size e W'/\Below w.heap.size w W' :=
 (dFj ls gs la lc ga gc cause ins d wash w hE (by have:=S.ll;omega) (by have:=S.gl;omega) hL hG S.lots S.gains hc hi).mono fun e W' ⟨h,hb⟩=>⟨dKn (fun hz=>.inr (by
  obtain⟨h1,h2,h3,h4,h5,h6⟩:=dIc hz;exact⟨⟨h1,h2,dD8.start h1 (fun y hy=>by obtain⟨a,b,c,d,_⟩:=S.lots y hy;exact⟨a,b,c,d⟩) S.gains (by have:=S.gl;omega)⟩,⟨h4.1,h4.2,h5,h6⟩,h3⟩)) h,hb⟩
theorem dJf{ins:List UInt8}{d wash:Int}{cause:List UInt8}{ls:List Bd}{gs:List aLe}{t:bWs}(E:dD9 ins d wash cause ls gs t)(I:dJ0 d wash)(hin:dC ins=true)(la:Option Addr)(lc:Nat)(ga:Option Addr)(gc:Nat)(w:World)(hE:iE w)(hL:Jj w la t.lots)(hG:aL3 w ga t.gains)(hc:cause.length<=9223372036854775807)(hi:ins.length<=9223372036854775807):
  Calls prog 11 #[.slice la t.lots.length lc,.slice ga t.gains.length gc,.string ⟨cause.toArray⟩,.int .i64 d,.string ⟨ins.toArray⟩,.int .i64 wash] w fun e W'=>(∃la2 lc2 ga2 gc2 sa2 sc2 ec2,e=.returned (.tuple #[.agg #[.slice la2 t.lots.length lc2,.slice ga2 t.gains.length gc2,.slice sa2 0 sc2,.slice none 0 ec2],.int .i64 0])/\Jj W' la2 t.lots/\aL3 W' ga2 t.gains)/\Below w.heap.size w W' :=
 (dGj t.lots t.gains la lc ga gc cause ins d wash _ w hE (by have:=E.stOk.ok.lots.len;omega) (by have:=E.stOk.gl;omega) hL hG (fun V sa sc hb hn=>dGi t.lots t.gains la lc ga gc d wash [cause,ins] sa sc V (hE.below hb) (by have:=E.stOk.ok.lots.len;omega) E.smallL (by have:=E.stOk.gl;omega) E.wideG (by simp) (fun s hs=>by
  simp only[List.mem_cons,List.not_mem_nil,or_false] at hs;rcases hs with rfl|rfl
  ·exact hc
  ·exact hi) (hL.below hb) (hG.below hb) hn) fun _=>⟨E.fit.again,E.name,I.w0,I.w1⟩).mono fun e W' ⟨h,hb⟩=>⟨by
   have hz:dEk t.lots t.gains d wash [cause,ins]=0:=dIi E.stOk.ok.lots E.stOk.ok.gains (fun s hs=>by
    simp only[List.mem_cons,List.not_mem_nil,or_false] at hs;rcases hs with rfl|rfl
    ·exact E.name
    ·exact hin) ⟨I.d0,I.d1⟩ ⟨I.w0,I.w1⟩
   rcases h with⟨h1,_⟩|⟨_,r,h2,h3⟩
   ·exact absurd hz h1
   obtain rfl:=h2.still E.done;obtain⟨v,rfl,h4⟩:=h3;obtain⟨la2,lc2,ga2,gc2,sa2,sc2,ea,en,ec,rfl,h5⟩:=dJw h4;rcases h5.eff with⟨_,rfl,rfl⟩|⟨hn,_⟩
   ·exact⟨la2,lc2,ga2,gc2,sa2,sc2,ec,rfl,h5.lots,h5.gains⟩
   ·exact absurd rfl hn,hb⟩
theorem dJg(ls:List Bd)(gs:List aLe)(a:Option Addr)(c:Nat)(a2:Option Addr)(c2:Nat)(w:World)(hE:iE w)(hn:ls.length<=1000000)(hw:Jj w a ls)(hs:∀y,y∈ls->y.u.length<=1000)(hn2:gs.length<=1000000)(hw2:aL3 w a2 gs)(hs2:∀x,x∈gs->x.rp.length<=1000):
  Calls prog 14 #[.slice a ls.length c,.slice a2 gs.length c2] w fun e w'=>(∃p q:List UInt8,e=.returned (.tuple #[.string ⟨p.toArray⟩,.string ⟨q.toArray⟩])/\p=aJ (bXk (fun y:Bd=>val y.u) ls)/\q=aJ (bXk (fun x:aLe=>val x.rp) gs)/\p.length<=10000000/\q.length<=10000000)/\Below w.heap.size w w':=by
 have HE:=Hd hE;have HW:=Hd hw;have HW2:=Hd hw2;have HS:=Hd hs;have HS2:=Hd hs2;clear hE hw hs hw2 hs2;go_enter func14,ntmps14;go_wp2;go_loopw [6,14] (fun t i W=>Hid (Below w.heap.size w W)/\∃k:Nat,k<=ls.length/\i=.int .i64 (k:Int)/\∃st:List UInt8,t=.string ⟨st.toArray⟩/\Hid (st=aJ (bXk (fun y:Bd=>val y.u) (ls.take k)))/\st.length<=1000+2*k) (fun _ i _=>ls.length-(intOf i).toNat)
 case atStart=>exact⟨Br _ _,0,Nat.zero_le _,rfl,[],rfl,nA.symm,by simp⟩
 case round =>
  obtain⟨hB,k,hk,rfl,st,rfl,hst,hsl⟩:=hrel
  by_cases hlt:k<ls.length
  ·obtain⟨x,hx⟩:∃x,ls[k]?=some x:=⟨ls[k],Lg hlt⟩
   obtain⟨b,off,ha,k0,k1,k2,k3,k4,k5,k6⟩:=(HW.out.below hB.out).addr hx;subst ha;have hfx:=HS.out x (List.mem_of_getElem? hx);have HA:=Hd (fun W hW=>aAg st x.u W hW (by omega) (by omega));have hl6:=aPa (l:=st) (m:=x.u) (K:=1000+2*k) (by omega) (by omega);have HS2:Hid (aJ (val st+val x.u)=aJ (bXk (fun y:Bd=>val y.u) (ls.take (k+1)))):=by
    show _=_;rw[hst.out,bE,dIj _ hx]
   have HB:=Hd (aA hB.out (aB wr (.cells #[.string ⟨x.id.toArray⟩,.string ⟨x.ins.toArray⟩,.int .i64 x.acq,.int .i64 x.opn,.string ⟨x.q.toArray⟩,.string ⟨x.c.toArray⟩,.string ⟨x.u.toArray⟩] 49)));clear hx;go_wp2_with fail;generalize wr.alloc _=w0 at *;refine(HA.out _ (HE.out.below HB.out)).mono ?_;rintro e w3 ⟨rfl,hb⟩;have HB:=Hd (aA HB.out hb);clear hb HA k0 k1 k2 k3 k4 k5 k6;go_wp2;go_round
   case rel=>exact⟨HB,k+1,by omega,by go_num,_,rfl,HS2,by omega⟩
   case measure=>simp[intOf];omega
  ·obtain rfl:k=ls.length:=by omega
   have HP:Hid (st=aJ (bXk (fun y:Bd=>val y.u) ls)):=by show _=_;rw[hst.out,List.take_length]
   clear hst;go_wp2;go_loopw [7,25] (fun t i W=>Hid (Below w.heap.size w W)/\∃k:Nat,k<=gs.length/\i=.int .i64 (k:Int)/\∃st:List UInt8,t=.string ⟨st.toArray⟩/\Hid (st=aJ (bXk (fun x:aLe=>val x.rp) (gs.take k)))/\st.length<=1000+2*k) (fun _ i _=>gs.length-(intOf i).toNat)
   case atStart=>exact⟨hB,0,Nat.zero_le _,rfl,[],rfl,nA.symm,by simp⟩
   case round =>
    clear hB;obtain⟨hB,k,hk2,rfl,s2,rfl,hst2,hsl2⟩:=hrel
    by_cases hlt2:k<gs.length
    ·obtain⟨x,hx⟩:∃x,gs[k]?=some x:=⟨gs[k],Lg hlt2⟩
     obtain⟨b,off,ha,k0,k1,k2,k3,k4,k5,k6,k7,k8,k9⟩:=(HW2.out.below hB.out).addr hx;subst ha;have hfx:=HS2.out x (List.mem_of_getElem? hx);have HA:=Hd (fun W hW=>aAg s2 x.rp W hW (by omega) (by omega));have hl6:=aPa (l:=s2) (m:=x.rp) (K:=1000+2*k) (by omega) (by omega);have HSS:Hid (aJ (val s2+val x.rp)=aJ (bXk (fun x:aLe=>val x.rp) (gs.take (k+1)))):=by
      show _=_;rw[hst2.out,bE,dIj _ hx]
     have HB:=Hd (aA hB.out (aB wr (.cells #[.string ⟨x.cause.toArray⟩,.string ⟨x.lot.toArray⟩,.string ⟨x.ins.toArray⟩,.int .i64 x.acq,.int .i64 x.cls,.string ⟨x.q.toArray⟩,.string ⟨x.p.toArray⟩,.string ⟨x.c.toArray⟩,.string ⟨x.df.toArray⟩,.string ⟨x.rp.toArray⟩] 42)));clear hx;go_wp2_with fail;generalize wr.alloc _=w0 at *;refine(HA.out _ (HE.out.below HB.out)).mono ?_;rintro e w3 ⟨rfl,hb⟩;have HB:=Hd (aA HB.out hb);clear hb HA k0 k1 k2 k3 k4 k5 k6 k7 k8 k9;go_wp2;go_round
     case rel=>exact⟨HB,k+1,by omega,by go_num,_,rfl,HSS,by omega⟩
     case measure=>simp[intOf];omega
    ·obtain rfl:k=gs.length:=by omega
     have HQ:Hid (s2=aJ (bXk (fun x:aLe=>val x.rp) gs)):=by show _=_;rw[hst2.out,List.take_length]
     clear hst2;go_wp2;go_ret2;exact⟨⟨st,s2,rfl,HP.out,HQ.out,by omega,by omega⟩,hB.out⟩
end
end Go.Proofs.YtiloklnjjfaagaaGreatDoor
