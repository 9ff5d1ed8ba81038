/- WTermEq WOthers -/
import Derived.Test.YtiloklnjjfaagaaGreatDoorWD
set_option maxHeartbeats 16000000
set_option maxRecDepth 100000
namespace Go.Proofs.YtiloklnjjfaagaaGreatDoor
open Go.Proofs.Tryz
section
open Go Go.RowKit Num
attribute [local go_sem] eW eN aV nW
theorem dJh(ts:List (List UInt8×List UInt8))(b1 b2 c1 c2:Nat)(w:World)(hl:ts.length<=1000000)(l1:b1<w.heap.size)(l2:b2<w.heap.size)
  (h1:∀k x,ts[k]?=some x->w.cell? ⟨b1,k*2,none⟩=some (.string ⟨x.1.toArray⟩)/\w.cell? ⟨b1,k*2+1,none⟩=some (.string ⟨x.2.toArray⟩))
  (h2:∀k x,ts[k]?=some x->w.cell? ⟨b2,k*2,none⟩=some (.string ⟨x.1.toArray⟩)/\w.cell? ⟨b2,k*2+1,none⟩=some (.string ⟨x.2.toArray⟩)) :
  Calls prog 27 #[.slice (some ⟨b1,0,none⟩) ts.length c1,.slice (some ⟨b2,0,none⟩) ts.length c2] w fun e w'=>e=.returned (.bool true)/\Below w.heap.size w w':=by
 have H1:=Hd h1;have H2:=Hd h2;have HL:=Hd (And.intro l1 l2);clear h1 h2 l1 l2;go_enter func27,ntmps27;go_wp2;go_loopw [13] (fun i W=>Hid (Below w.heap.size w W)/\∃k:Nat,k<=ts.length/\i=.int .i64 (k:Int)) (fun i _=>ts.length-(intOf i).toNat)
 case atStart=>exact⟨Br _ _,0,Nat.zero_le _,rfl⟩
 case round =>
  obtain⟨HB,k,hk,rfl⟩:=hrel
  by_cases hlt:k<ts.length
  ·obtain⟨x,hx⟩:∃x,ts[k]?=some x:=⟨ts[k],Lg hlt⟩
   obtain⟨p0,p1⟩:=H1.out k x hx;obtain⟨q0,q1⟩:=H2.out k x hx;have k0:=(HB.out.cell (p:=⟨b1,k*2,none⟩) HL.out.1).trans p0;have k1:=(HB.out.cell (p:=⟨b1,k*2+1,none⟩) HL.out.1).trans p1;have j0:=(HB.out.cell (p:=⟨b2,k*2,none⟩) HL.out.2).trans q0;have j1:=(HB.out.cell (p:=⟨b2,k*2+1,none⟩) HL.out.2).trans q1;clear hx p0 p1 q0 q1;go_wp2_with fail;go_quiet (fail);go_wp2;go_round
   case rel=>exact⟨aD HB.out _,k+1,by omega,by go_num⟩
   case measure=>simp[intOf];omega
  ·obtain rfl:k=ts.length:=by omega
   go_wp2;go_ret;exact⟨rfl,HB.out⟩
theorem dJi(b1 b2 c1 c2:Nat)(s t:List UInt8)(w:World)(k1:aP w b1 #[.string ⟨s.toArray⟩,.string ⟨t.toArray⟩] 65)(k2:aP w b2 #[.string ⟨s.toArray⟩,.string ⟨t.toArray⟩] 65):
  Calls prog 27 #[.slice (some ⟨b1,0,none⟩) 1 c1,.slice (some ⟨b2,0,none⟩) 1 c2] w fun e w'=>e=.returned (.bool true)/\Below w.heap.size w w' :=
 dJh [(s,t)] b1 b2 c1 c2 w (by simp) k1.1 k2.1 (fun k x hx=>by
  match k,hx with
  |0,hx=>cases hx;exact⟨k1.cell 0,k1.cell 1⟩
  |n+1,hx=>cases hx) (fun k x hx=>by
  match k,hx with
  |0,hx=>cases hx;exact⟨k2.cell 0,k2.cell 1⟩
  |n+1,hx=>cases hx)
end
section
open Go Go.RowKit Num
attribute [local go_sem] eW eN aV
theorem dI9{α:Type}{p:α->Bool}{l:List α}{k:Nat}{x:α}(h:l[k]?=some x):(l.take (k+1)).filter p=if p x=true then(l.take k).filter p ++ [x] else(l.take k).filter p:=by
 rw[List.take_add_one,h,Option.toList_some,List.filter_append];cases hp:p x <;> simp[hp]
def dKf(fl:List Bd)(fg:List aLe)(e:Ending)(W:World):Prop:=∃a1 c1 a3 c3,e=.returned (.tuple #[.slice a1 fl.length c1,.slice a3 fg.length c3])/\Jj W a1 fl/\aL3 W a3 fg
theorem dIq(ls:List Bd)(gs:List aLe)(ins:List UInt8)(a:Option Addr)(c:Nat)(a2:Option Addr)(c2:Nat)(w:World)(hn:ls.length<=1000000)(hw:Jj w a ls)(hn2:gs.length<=1000000)(hw2:aL3 w a2 gs):
  Calls prog 28 #[.slice a ls.length c,.slice a2 gs.length c2,.string ⟨ins.toArray⟩] w fun e w'=>dKf (ls.filter (fun y=>decide (y.ins≠ins))) (gs.filter (fun y=>decide (y.ins≠ins))) e w'/\Below w.heap.size w w':=by
 have HW:=Hd hw;have HW2:=Hd hw2;obtain⟨i0,hi,hz0,hz1,hz2⟩:=info_parts dF8;obtain⟨j0,hj,hy0,hy1,hy2⟩:=info_parts aO1;obtain⟨fl,hfl⟩:∃fl,fl=ls.filter (fun y=>decide (y.ins≠ins)):=⟨_,rfl⟩
 obtain⟨fg,hfg⟩:∃fg,fg=gs.filter (fun y=>decide (y.ins≠ins)):=⟨_,rfl⟩
 rw[<-hfl,<-hfg];have HLL:=Hd hfl;have HGL:=Hd hfg;clear hw hw2 hfl hfg;go_enter func28,ntmps28;go_wp2;go_loopw [8,16] (fun ov iv W=>Hid (Below w.heap.size w W)/\∃k:Nat,k<=ls.length/\iv=.int .i64 (k:Int)/\Hid (W.ownsRow w.heap.size 49 7 ov ((ls.take k).filter (fun y=>decide (y.ins≠ins))).length (dAf Bd.cs ((ls.take k).filter (fun y=>decide (y.ins≠ins)))))) (fun _ iv _=>ls.length-(intOf iv).toNat)
 case atStart=>exact⟨Br _ _,0,Nat.zero_le _,rfl,World.ownsRow_nil _ _ _ _⟩
 case round =>
  obtain⟨HB,k,hk,rfl,HO⟩:=hrel
  by_cases hlt:k<ls.length
  ·obtain⟨x,hx⟩:∃x,ls[k]?=some x:=⟨ls[k],Lg hlt⟩
   obtain⟨b,off,ha,k0,k1,k2,k3,k4,k5,k6⟩:=(HW.out.below HB.out).addr hx;subst ha;have HF:=Hd (dI9 (p:=fun y:Bd=>decide (y.ins≠ins)) hx);have HFL:Hid (((ls.take k).filter (fun y=>decide (y.ins≠ins))).length<=k):=Nat.le_trans (List.length_filter_le _ _) (by simp;omega);have hba:=aB wr (.cells #[.string ⟨x.id.toArray⟩,.string ⟨x.ins.toArray⟩,.int .i64 x.acq,.int .i64 x.opn,.string ⟨x.q.toArray⟩,.string ⟨x.c.toArray⟩,.string ⟨x.u.toArray⟩] 49);have HB4:=Hd (aA HB.out hba);have HO4:=Hd (HO.out.alloc (.cells #[.string ⟨x.id.toArray⟩,.string ⟨x.ins.toArray⟩,.int .i64 x.acq,.int .i64 x.opn,.string ⟨x.q.toArray⟩,.string ⟨x.c.toArray⟩,.string ⟨x.u.toArray⟩] 49));have KX:=Hd (aP.new0 wr #[.string ⟨x.id.toArray⟩,.string ⟨x.ins.toArray⟩,.int .i64 x.acq,.int .i64 x.opn,.string ⟨x.q.toArray⟩,.string ⟨x.c.toArray⟩,.string ⟨x.u.toArray⟩] 49);obtain⟨s',hs'⟩:∃s',s'=(ls.take (k+1)).filter (fun y=>decide (y.ins≠ins)):=⟨_,rfl⟩
   rw[<-hs'] at HF;have HS':=Hd hs';generalize(ls.take k).filter (fun y=>decide (y.ins≠ins))=s at *;clear hx hba HB HO hs'
   by_cases hq:x.ins=ins
   ·obtain rfl:s'=s:=by have h:=HF.out;rw[if_neg (by simp[hq])] at h;exact h
    have hq':(x.ins==ins)=true:=by simpa using hq
    clear HF hq;go_wp2;go_roundw
    case rel=>exact⟨HB4,k+1,by omega,by go_num,by rw[<-HS'.out];exact HO4⟩
    case measure=>simp[intOf];omega
   ·have HF2:Hid (s'=s ++ [x]):=by have h:=HF.out;rw[if_pos (by simp[hq])] at h;exact h
    have hq':(x.ins==ins)=false:=by simpa using hq
    clear HF hq;go_upto_region 7 with fail
    generalize wr.alloc _=w0 at *;clear k0 k1 k2 k3 k4 k5 k6;have c0:=KX.out.cell 0;have c1:=KX.out.cell 1;have c2:=KX.out.cell 2;have c3:=KX.out.cell 3;have c4:=KX.out.cell 4;have c5:=KX.out.cell 5;have c6:=KX.out.cell 6;have HB5:=Hd (aA HB4.out (aB w0 (.cells #[.string ⟨x.id.toArray⟩,.string ⟨x.ins.toArray⟩,.int .i64 x.acq,.int .i64 x.opn,.string ⟨x.q.toArray⟩,.string ⟨x.c.toArray⟩,.string ⟨x.u.toArray⟩] 49)));have HSZ:=Hd HB4.out.size;have hfl:=HFL.out;go_wp2_with (at_builtin;refine wpList_append_own_at _ rfl _ _ 22 rfl w.heap.size 49 i0 dFa 7 96 underlying22 hi hz0 hz1 hz2 rfl (by decide) _ _ _ rfl (HO4.out.alloc _) ⟨w0.heap.size,0,none⟩ 1 1 (Bd.cs x).toList rfl rfl ?c1 ?c2 ?c3 ?c4 ?c5 ?_)
    case c1 =>
     intro j u hj;rw[lM,Nat.zero_add];rw[show (w0.alloc (.cells #[.string ⟨x.id.toArray⟩,.string ⟨x.ins.toArray⟩,.int .i64 x.acq,.int .i64 x.opn,.string ⟨x.q.toArray⟩,.string ⟨x.c.toArray⟩,.string ⟨x.u.toArray⟩] 49)).cell? ⟨w0.heap.size,j,none⟩=(Bd.cs x)[j]? from(aP.new0 w0 _ _).cell j];simpa using hj
    case c2=>intro u hu;simp[Bd.cs] at hu;rcases hu with rfl|rfl|rfl|rfl|rfl|rfl|rfl <;> rfl
    case c3=>unfold maxLen;omega
    case c4=>omega
    case c5=>have:=HSZ.out;simp;omega
    intro v' w3 hown' hgrow _ _;have HB6:=Hd (Ut (HO4.out.alloc (.cells #[.string ⟨x.id.toArray⟩,.string ⟨x.ins.toArray⟩,.int .i64 x.acq,.int .i64 x.opn,.string ⟨x.q.toArray⟩,.string ⟨x.c.toArray⟩,.string ⟨x.u.toArray⟩] 49)) hgrow HB5.out (by have:=HSZ.out;simp;omega));have HO6:Hid (w3.ownsRow w.heap.size 49 7 v' s'.length (dAf Bd.cs s')):=by
     show World.ownsRow _ _ _ _ _ _ _;rw[HF2.out,List.length_append,dDd,dFg];exact hown'
    clear hgrow hown' c0 c1 c2 c3 c4 c5 c6;go_wp2;go_roundw
    case rel=>exact⟨HB6,k+1,by omega,by go_num,by rw[<-HS'.out];exact HO6⟩
    case measure=>simp[intOf];omega
  ·obtain rfl:k=ls.length:=by omega
   rw[List.take_length,<-HLL.out] at HO;obtain⟨xa,xc,hov⟩:=dD0 HO.out;subst hov;have HB0:=HB;have HL0:=HO;clear HB HO;go_wp2;go_loopw [9,31] (fun ov iv W=>Hid (Below w.heap.size w W)/\Hid (W.ownsRow w.heap.size 49 7 (.slice xa fl.length xc) fl.length (dAf Bd.cs fl))/\∃k:Nat,k<=gs.length/\iv=.int .i64 (k:Int)/\Hid (W.ownsRow w.heap.size 42 10 ov ((gs.take k).filter (fun y=>decide (y.ins≠ins))).length (dAf aLe.cs ((gs.take k).filter (fun y=>decide (y.ins≠ins)))))) (fun _ iv _=>gs.length-(intOf iv).toNat)
   case atStart=>exact⟨HB0,HL0,0,Nat.zero_le _,rfl,World.ownsRow_nil _ _ _ _⟩
   case round =>
    clear HB0 HL0;obtain⟨HB,HL,k,hk,rfl,HO⟩:=hrel
    by_cases hlt:k<gs.length
    ·obtain⟨x,hx⟩:∃x,gs[k]?=some x:=⟨gs[k],Lg hlt⟩
     obtain⟨b,off,ha,k0,k1,k2,k3,k4,k5,k6,k7,k8,k9⟩:=(HW2.out.below HB.out).addr hx;subst ha;have HF:=Hd (dI9 (p:=fun y:aLe=>decide (y.ins≠ins)) hx);have HFL:Hid (((gs.take k).filter (fun y=>decide (y.ins≠ins))).length<=k):=Nat.le_trans (List.length_filter_le _ _) (by simp;omega);have hba:=aB wr (.cells #[.string ⟨x.cause.toArray⟩,.string ⟨x.lot.toArray⟩,.string ⟨x.ins.toArray⟩,.int .i64 x.acq,.int .i64 x.cls,.string ⟨x.q.toArray⟩,.string ⟨x.p.toArray⟩,.string ⟨x.c.toArray⟩,.string ⟨x.df.toArray⟩,.string ⟨x.rp.toArray⟩] 42);have HB4:=Hd (aA HB.out hba);have HO4:=Hd (HO.out.alloc (.cells #[.string ⟨x.cause.toArray⟩,.string ⟨x.lot.toArray⟩,.string ⟨x.ins.toArray⟩,.int .i64 x.acq,.int .i64 x.cls,.string ⟨x.q.toArray⟩,.string ⟨x.p.toArray⟩,.string ⟨x.c.toArray⟩,.string ⟨x.df.toArray⟩,.string ⟨x.rp.toArray⟩] 42));have HL4:=Hd ((dCk.of_below _ hba).owns HL.out);have KX:=Hd (aP.new0 wr #[.string ⟨x.cause.toArray⟩,.string ⟨x.lot.toArray⟩,.string ⟨x.ins.toArray⟩,.int .i64 x.acq,.int .i64 x.cls,.string ⟨x.q.toArray⟩,.string ⟨x.p.toArray⟩,.string ⟨x.c.toArray⟩,.string ⟨x.df.toArray⟩,.string ⟨x.rp.toArray⟩] 42);obtain⟨s',hs'⟩:∃s',s'=(gs.take (k+1)).filter (fun y=>decide (y.ins≠ins)):=⟨_,rfl⟩
     rw[<-hs'] at HF;have HS':=Hd hs';generalize(gs.take k).filter (fun y=>decide (y.ins≠ins))=s at *;clear hx hba HB HO hs' HL
     by_cases hq:x.ins=ins
     ·obtain rfl:s'=s:=by have h:=HF.out;rw[if_neg (by simp[hq])] at h;exact h
      have hq':(x.ins==ins)=true:=by simpa using hq
      clear HF hq;go_wp2;go_roundw
      case rel=>exact⟨HB4,HL4,k+1,by omega,by go_num,by rw[<-HS'.out];exact HO4⟩
      case measure=>simp[intOf];omega
     ·have HF2:Hid (s'=s ++ [x]):=by have h:=HF.out;rw[if_pos (by simp[hq])] at h;exact h
      have hq':(x.ins==ins)=false:=by simpa using hq
      clear HF hq;go_upto_region 13 with fail
      generalize wr.alloc _=w0 at *;clear k0 k1 k2 k3 k4 k5 k6 k7 k8 k9;have c0:=KX.out.cell 0;have c1:=KX.out.cell 1;have c2:=KX.out.cell 2;have c3:=KX.out.cell 3;have c4:=KX.out.cell 4;have c5:=KX.out.cell 5;have c6:=KX.out.cell 6;have c7:=KX.out.cell 7;have c8:=KX.out.cell 8;have c9:=KX.out.cell 9;have HB5:=Hd (aA HB4.out (aB w0 (.cells #[.string ⟨x.cause.toArray⟩,.string ⟨x.lot.toArray⟩,.string ⟨x.ins.toArray⟩,.int .i64 x.acq,.int .i64 x.cls,.string ⟨x.q.toArray⟩,.string ⟨x.p.toArray⟩,.string ⟨x.c.toArray⟩,.string ⟨x.df.toArray⟩,.string ⟨x.rp.toArray⟩] 42)));have HL5:=Hd ((dCk.of_below _ (aB w0 (.cells #[.string ⟨x.cause.toArray⟩,.string ⟨x.lot.toArray⟩,.string ⟨x.ins.toArray⟩,.int .i64 x.acq,.int .i64 x.cls,.string ⟨x.q.toArray⟩,.string ⟨x.p.toArray⟩,.string ⟨x.c.toArray⟩,.string ⟨x.df.toArray⟩,.string ⟨x.rp.toArray⟩] 42))).owns HL4.out);have HSZ:=Hd HB4.out.size;have hfl:=HFL.out;go_wp2_with (at_builtin;refine wpList_append_own_at _ rfl _ _ 23 rfl w.heap.size 42 j0 aPc 10 144 underlying23 hj hy0 hy1 hy2 rfl (by decide) _ _ _ rfl (HO4.out.alloc _) ⟨w0.heap.size,0,none⟩ 1 1 (aLe.cs x).toList rfl rfl ?d1 ?d2 ?d3 ?d4 ?d5 ?_)
      case d1 =>
       intro j u hj;rw[lM,Nat.zero_add];rw[show (w0.alloc (.cells #[.string ⟨x.cause.toArray⟩,.string ⟨x.lot.toArray⟩,.string ⟨x.ins.toArray⟩,.int .i64 x.acq,.int .i64 x.cls,.string ⟨x.q.toArray⟩,.string ⟨x.p.toArray⟩,.string ⟨x.c.toArray⟩,.string ⟨x.df.toArray⟩,.string ⟨x.rp.toArray⟩] 42)).cell? ⟨w0.heap.size,j,none⟩=(aLe.cs x)[j]? from(aP.new0 w0 _ _).cell j];simpa using hj
      case d2=>intro u hu;simp[aLe.cs] at hu;rcases hu with rfl|rfl|rfl|rfl|rfl|rfl|rfl|rfl|rfl|rfl <;> rfl
      case d3=>unfold maxLen;omega
      case d4=>omega
      case d5=>have:=HSZ.out;simp;omega
      intro v' w3 hown' hgrow _ _;have HB6:=Hd (Ut (HO4.out.alloc (.cells #[.string ⟨x.cause.toArray⟩,.string ⟨x.lot.toArray⟩,.string ⟨x.ins.toArray⟩,.int .i64 x.acq,.int .i64 x.cls,.string ⟨x.q.toArray⟩,.string ⟨x.p.toArray⟩,.string ⟨x.c.toArray⟩,.string ⟨x.df.toArray⟩,.string ⟨x.rp.toArray⟩] 42)) hgrow HB5.out (by have:=HSZ.out;simp;omega));have HL6:=Hd ((dCk.grown (T:=49) (by decide) (HO4.out.alloc (.cells #[.string ⟨x.cause.toArray⟩,.string ⟨x.lot.toArray⟩,.string ⟨x.ins.toArray⟩,.int .i64 x.acq,.int .i64 x.cls,.string ⟨x.q.toArray⟩,.string ⟨x.p.toArray⟩,.string ⟨x.c.toArray⟩,.string ⟨x.df.toArray⟩,.string ⟨x.rp.toArray⟩] 42)) hgrow).owns HL5.out);have HO6:Hid (w3.ownsRow w.heap.size 42 10 v' s'.length (dAf aLe.cs s')):=by
       show World.ownsRow _ _ _ _ _ _ _;rw[HF2.out,List.length_append,dDd,dFg];exact hown'
      clear hgrow hown' c0 c1 c2 c3 c4 c5 c6 c7 c8 c9;go_wp2;go_roundw
      case rel=>exact⟨HB6,HL6,k+1,by omega,by go_num,by rw[<-HS'.out];exact HO6⟩
      case measure=>simp[intOf];omega
    ·obtain rfl:k=gs.length:=by omega
     rw[List.take_length,<-HGL.out] at HO;obtain⟨a1,c1,e1,_,R1⟩:=dDb HL.out;injection e1 with e1 _ e1'
     subst e1 e1';obtain⟨a3,c3,e3,_,R3⟩:=dDu HO.out;subst e3;have R1:=Hd R1;have R3:=Hd R3;clear HL HO;go_wp2;go_ret2;exact⟨⟨_,_,a3,c3,rfl,R1.out,R3.out⟩,HB.out⟩
end
end Go.Proofs.YtiloklnjjfaagaaGreatDoor
