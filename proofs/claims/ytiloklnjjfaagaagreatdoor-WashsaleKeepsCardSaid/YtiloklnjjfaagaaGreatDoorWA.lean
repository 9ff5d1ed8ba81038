/- WList WLawQ -/
import Derived.Test.YtiloklnjjfaagaaGreatDoorVM
set_option maxHeartbeats 16000000
set_option maxRecDepth 100000
namespace Go.Proofs.YtiloklnjjfaagaaGreatDoor
open Go.Proofs.Tryz
section
open Go Go.RowKit Num
attribute [local go_sem] eW eN aV
structure dKj(d wash:Int):Prop where
 d0:-25567<=d
 d1:d<=84005
 w0:0<=wash
 w1:wash<=366
noncomputable def dDj(gs:List aLe)(ins:List UInt8):List UInt8:=if dEk [] gs 0 0 []=0 then aJ (bXk (dBq ins) gs) else[]
theorem dIo(gs:List aLe)(a:Option Addr)(c:Nat)(ins:List UInt8)(w:World)(hE:iE w)(hn:gs.length<=1000000)(hw:aL3 w a gs)(hs:∀x,x∈gs->x.wide):
  Calls prog 19 #[.slice a gs.length c,.string ⟨ins.toArray⟩] w fun e w'=>e=.returned (.tuple #[.string ⟨(dDj gs ins).toArray⟩,.int .i64 (dEk [] gs 0 0 [])])/\Below w.heap.size w w':=by
 have HC:=Hd (dGi [] gs none 0 a c 0 0 [] none 0 w hE (by simp) (fun _ h=>by cases h) hn hs (by simp) (fun _ h=>by cases h) (.inl rfl) hw (.inl rfl));have HR:Hid (dDj gs ins=if dEk [] gs 0 0 []=0 then aJ (bXk (dBq ins) gs) else[]):=rfl;have HW:=Hd hw;have HS:=Hd hs;have HE:=Hd hE;clear hE hw hs;generalize dEk [] gs 0 0 []=ck at *;generalize dDj gs ins=rr at *;simp only[List.length_nil] at HC;go_enter func19,ntmps19;go_wp2_with fail;refine HC.out.mono ?_;rintro e w1 ⟨rfl,hb⟩;have HB1:=Hd hb;clear hb HC
 by_cases g:ck=0
 case neg =>
  have g':(ck==0)=false:=by simpa using g
  have HR:Hid (rr=[]):=by show _=_;rw[HR.out,if_neg g]
  obtain rfl:=HR.out;go_wp2;go_ret2;exact⟨rfl,HB1.out⟩
 subst g;have HR2:Hid (rr=aJ (bXk (dBq ins) gs)):=by show _=_;rw[HR.out,if_pos rfl]
 clear HR;go_wp2;go_loopw [7,17] (fun t i W=>Hid (Below w.heap.size w W)/\∃k:Nat,k<=gs.length/\i=.int .i64 (k:Int)/\∃st:List UInt8,t=.string ⟨st.toArray⟩/\Hid (st=aJ (bXk (dBq ins) (gs.take k)))/\st.length<=1000+2*k) (fun _ i _=>gs.length-(intOf i).toNat)
 case atStart=>exact⟨HB1,0,Nat.zero_le _,rfl,[],rfl,nA.symm,by simp⟩
 case round =>
  clear HB1;obtain⟨hB,k,hk,rfl,st,rfl,hst,hsl⟩:=hrel
  by_cases hlt:k<gs.length
  ·obtain⟨x,hx⟩:∃x,gs[k]?=some x:=⟨gs[k],Lg hlt⟩
   obtain⟨b,off,ha,k0,k1,k2,k3,k4,k5,k6,k7,k8,k9⟩:=(HW.out.below hB.out).addr hx;subst ha;have hfx:=(HS.out x (List.mem_of_getElem? hx)).2.2.2.2.2.2.1;have HA:=Hd (fun W hW=>aAg st x.df W hW (by omega) (by omega));have hl6:=aPa (l:=st) (m:=x.df) (K:=1000+2*k) (by omega) (by omega);have HT:=Hd (dIj (dBq ins) hx);have HDX:Hid (dBq ins x=if x.ins=ins then val x.df else 0):=rfl;have HB:=Hd (aA hB.out (aB wr (.cells #[.string ⟨x.cause.toArray⟩,.string ⟨x.lot.toArray⟩,.string ⟨x.ins.toArray⟩,.int .i64 x.acq,.int .i64 x.cls,.string ⟨x.q.toArray⟩,.string ⟨x.p.toArray⟩,.string ⟨x.c.toArray⟩,.string ⟨x.df.toArray⟩,.string ⟨x.rp.toArray⟩] 42)));clear hx
   by_cases hq:x.ins=ins
   ·have HSS:Hid (aJ (val st+val x.df)=aJ (bXk (dBq ins) (gs.take (k+1)))):=by
     show _=_;rw[HT.out,hst.out,bE,HDX.out,if_pos hq]
    have hq':(x.ins==ins)=true:=by simpa using hq
    clear HT HDX hq;go_wp2_with fail;generalize wr.alloc _=w0 at *;refine(HA.out _ (HE.out.below HB.out)).mono ?_;rintro e w3 ⟨rfl,hb⟩;have HB:=Hd (aA HB.out hb);clear hb HA k0 k1 k2 k3 k4 k5 k6 k7 k8 k9;go_wp2;go_round
    case rel=>exact⟨HB,k+1,by omega,by go_num,_,rfl,HSS,by omega⟩
    case measure=>simp[intOf];omega
   ·have HSS:Hid (st=aJ (bXk (dBq ins) (gs.take (k+1)))):=by
     show _=_;rw[HT.out,HDX.out,if_neg hq,Int.add_zero];exact hst.out
    have hq':(x.ins==ins)=false:=by simpa using hq
    clear HT HDX HA;go_wp2;go_round
    case rel=>exact⟨HB,k+1,by omega,by go_num,_,rfl,HSS,by omega⟩
    case measure=>simp[intOf];omega
  ·obtain rfl:k=gs.length:=by omega
   have HP:Hid (st=rr):=by show _=_;rw[hst.out,List.take_length,HR2.out]
   obtain rfl:=HP.out;go_wp2;go_ret2;exact⟨rfl,hB.out⟩
end
section
open Go Go.RowKit Num
attribute [local go_sem] eW eN aV
def dJ4(W:World)(d:Int)(cause ins:List UInt8)(z:Int)(ea:Option Addr)(en:Nat):Prop :=
 (z=0/\ea=none/\en=0)∨(z≠0/\en=1/\∃be bt,ea=some ⟨be,0,none⟩/\aP W bt #[.string ⟨#[97,109,111,117,110,116]⟩,.string ⟨(aJ z).toArray⟩] 65 /\
  aP W be #[.int .i64 5,.int .i64 d,.string ⟨cause.toArray⟩,.string ⟨ins.toArray⟩,.string ⟨#[]⟩,.string ⟨#[]⟩,.slice (some ⟨bt,0,none⟩) 1 1] 62)
theorem dJ4.below{W W':World}{d:Int}{cause ins:List UInt8}{z:Int}{ea:Option Addr}{en:Nat}(h:dJ4 W d cause ins z ea en)(hb:Below W.heap.size W W'):dJ4 W' d cause ins z ea en:=by
 rcases h with h|⟨h,e,be,bt,h1,h2,h3⟩
 ·exact .inl h
 ·exact .inr ⟨h,e,be,bt,h1,h2.below hb,h3.below hb⟩
structure dJw(W:World)(B0:Nat)(d:Int)(cause ins:List UInt8)(t:bWs)(la:Option Addr)(lc:Nat)(ga:Option Addr)(gc:Nat)(sa:Option Addr)(sc:Nat)(ea:Option Addr)(en ec:Nat):Prop where
 lcap:t.lots.length<=lc
 lots:Jj W la t.lots
 gcap:t.gains.length<=gc
 gains:aL3 W ga t.gains
 steps:W.ownsRow B0 45 6 (.slice sa t.steps.length sc) t.steps.length (dAf bZ9.cs t.steps)
 eff:dJ4 W d cause ins t.sum ea en
theorem dJw.below{W W':World}{B0:Nat}{d:Int}{cause ins:List UInt8}{t:bWs}{la:Option Addr}{lc:Nat}{ga:Option Addr}{gc:Nat}{sa:Option Addr}{sc:Nat}{ea:Option Addr}{en ec:Nat}(h:dJw W B0 d cause ins t la lc ga gc sa sc ea en ec)(hb:Below W.heap.size W W'):dJw W' B0 d cause ins t la lc ga gc sa sc ea en ec :=
 ⟨h.lcap,h.lots.below hb,h.gcap,h.gains.below hb,(dCk.of_below _ hb).owns h.steps,h.eff.below hb⟩
theorem dKd{W:World}{B0:Nat}{d:Int}{cause ins:List UInt8}{t:bWs}{v:Value}(h:dJc W B0 d cause ins t v):
  ∃la lc ga gc sa sc ea en ec,v=.agg #[.slice la t.lots.length lc,.slice ga t.gains.length gc,.slice sa t.steps.length sc,.slice ea en ec]/\dJw W B0 d cause ins t la lc ga gc sa sc ea en ec:=by
 obtain⟨lv,gv,tv,ev,rfl,hl,hg,hs,he⟩:=h;obtain⟨la,lc,rfl,h1,h2⟩:=dDb hl;obtain⟨ga,gc,rfl,h3,h4⟩:=dDu hg;obtain⟨sa,sc,rfl⟩:=dD0 hs;rcases he with⟨h5,rfl⟩|⟨h5,be,bt,rfl,_,_,h6,h7⟩
 ·exact⟨la,lc,ga,gc,sa,sc,none,0,0,rfl,h1,h2,h3,h4,hs,.inl ⟨h5,rfl,rfl⟩⟩
 ·exact⟨la,lc,ga,gc,sa,sc,some ⟨be,0,none⟩,1,1,rfl,h1,h2,h3,h4,hs,.inr ⟨h5,rfl,be,bt,rfl,h6,h7⟩⟩
def dJ5(ls:List Bd)(gs:List aLe)(cause ins:List UInt8)(d wash:Int)(B0:Nat)(e:Ending)(W:World):Prop :=
 (∃z:Int,z≠0/\e=.returned (.tuple #[.agg #[.slice none 0 0,.slice none 0 0,.slice none 0 0,.slice none 0 0],.int .i64 z])) ∨
  ∃t la lc ga gc sa sc ea en ec,dD9 ins d wash cause ls gs t/\dKj d wash/\dC ins=true/\e=.returned (.tuple #[.agg #[.slice la t.lots.length lc,.slice ga t.gains.length gc,.slice sa t.steps.length sc,.slice ea en ec],.int .i64 0])/\dJw W B0 d cause ins t la lc ga gc sa sc ea en ec
theorem dKe{ls:List Bd}{gs:List aLe}{cause ins:List UInt8}{d wash chk:Int}{B0:Nat}{e:Ending}{W:World}(hc:chk=0->bZm ins d wash cause ⟨ls,gs,[],0⟩ 0 none∨(dAw ⟨ls,gs,[],0⟩/\dC cause=true/\dD8 ⟨ls,gs,[],0⟩)/\dKj d wash/\dC ins=true)
  (h:(chk≠0/\e=.returned (.tuple #[.agg dDz,.int .i64 chk]))∨(chk=0/\∃r,bZm ins d wash cause ⟨ls,gs,[],0⟩ 0 r/\ApR W B0 d cause ins r e)):dJ5 ls gs cause ins d wash B0 e W:=by
 rcases h with⟨h1,h2⟩|⟨h1,r,h2,h3⟩
 ·exact .inl ⟨chk,h1,h2⟩
 ·cases r with
  |none=>exact .inl ⟨4,by decide,h3⟩
  |some t =>
   rcases hc h1 with hn|⟨⟨h4,h5,h6⟩,h7,h7b⟩
   ·exact absurd (h2.uniq _ hn) (by simp)
   ·obtain⟨v,rfl,h8⟩:=h3;obtain⟨la,lc,ga,gc,sa,sc,ea,en,ec,rfl,h9⟩:=dKd h8;exact .inr ⟨t,la,lc,ga,gc,sa,sc,ea,en,ec,⟨h2,h4,h5,h6⟩,h7,h7b,rfl,h9⟩
theorem dJk(ls:List Bd)(gs:List aLe)(la:Option Addr)(lc:Nat)(ga:Option Addr)(gc:Nat)(cause ins:List UInt8)(d wash:Int)(w:World)(hE:iE w)(S:dIh ls gs)(hL:Jj w la ls)(hG:aL3 w ga gs)(hc:cause.length<=9223372036854775807)(hi:ins.length<=9223372036854775807):
  Calls prog 11 #[.slice la ls.length lc,.slice ga gs.length gc,.string ⟨cause.toArray⟩,.int .i64 d,.string ⟨ins.toArray⟩,.int .i64 wash] w fun e W'=>dJ5 ls gs cause ins d wash w.heap.size e W'/\Below w.heap.size w W' :=
 (dFj ls gs la lc ga gc cause ins d wash w hE (by have:=S.ll;omega) (by have:=S.gl;omega) hL hG S.lots S.gains hc hi).mono fun e W' ⟨h,hb⟩=>⟨dKe (fun hz=>.inr (by
  obtain⟨h1,h2,h3,h4,h5,h6⟩:=dIc hz;exact⟨⟨h1,h2,dD8.start h1 (fun y hy=>by obtain⟨a,b,c,d,_⟩:=S.lots y hy;exact⟨a,b,c,d⟩) S.gains (by have:=S.gl;omega)⟩,⟨h4.1,h4.2,h5,h6⟩,h3⟩)) h,hb⟩
end
end Go.Proofs.YtiloklnjjfaagaaGreatDoor
