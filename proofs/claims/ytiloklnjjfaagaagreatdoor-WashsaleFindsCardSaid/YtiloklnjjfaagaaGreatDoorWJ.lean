/- WRefD WRefC WRefE -/
import Derived.Test.YtiloklnjjfaagaaGreatDoorWI
set_option maxHeartbeats 16000000
set_option maxRecDepth 100000
namespace Go.Proofs.YtiloklnjjfaagaaGreatDoor
open Go.Proofs.Tryz
section
open Go Go.RowKit Num
noncomputable def dKi:Array Oper:=(f34.body.bind (dDa 12)).getD #[]
def dKf:List (Nat×Nat):=[(0,42),(1,43),(2,44),(3,45),(4,46),(5,47),(6,48),(7,49)]
structure dKe where
 W0:World
 g:Nat
 o:Nat
 n:Nat
 cap:Nat
 k:Nat
 y:Bd
 bx:Nat
 x:aLe
 d:Int
 wash:Int
 r:Bool
def dKe.val(C:dKe)(_:Unit):Nat->Value
 |0=>.slice (some ⟨C.g,C.o,none⟩) C.n C.cap
 |1=>.int .i64 (C.k:Int)
 |2=>.pointer (some ⟨C.g,C.o+C.k*7,none⟩)
 |3=>.agg C.y.cs
 |4=>.agg C.x.cs
 |5=>.int .i64 C.d
 |6=>.int .i64 C.wash
 |_=>.bool C.r
def dKe.gg(C:dKe)(_:Unit)(_:Array Bool)(W:World):Prop:=Below C.W0.heap.size C.W0 W
structure dKo(C:dKe)(t0:Array Value):Prop where
 sz:t0.size=55
 lo0:t0[0]?=some (.slice (some ⟨C.g,C.o,none⟩) C.n C.cap)
 lo2:t0[2]?=some (.int .i64 C.d)
 lo3:t0[3]?=some (.int .i64 C.wash)
 lo5:t0[5]?=some (.pointer (some ⟨C.bx,0,none⟩))
 lo12:t0[12]?=some (.int .i64 (C.k:Int))
 kx:aP C.W0 C.bx C.x.cs 42
 kg:C.g<C.W0.heap.size
 ky:∀j u,C.y.cs[j]?=some u->C.W0.cell? ⟨C.g,C.o+C.k*7+j,none⟩=some u
 hi:C.k<C.n
 hn:C.n<=1000000
 hr:∀W,Below C.W0.heap.size C.W0 W->Calls prog 74 #[.agg C.y.cs,.agg C.x.cs,.int .i64 C.d,.int .i64 C.wash] W fun e w'=>e=.returned (.bool C.r)/\Below W.heap.size W w'
section
variable {C:dKe}{t0:Array Value}{Q:Exit->Act->World->Prop}
theorem dKb(M:dKo C t0){a:Act}{w:World}(hdf:a.defers=[])(ht:a.tmps=t0)(hw:w.drewN 1=C.W0)
  (hQ:∀W,Below C.W0.heap.size C.W0 W->Q .normal { tmps:=iZ (C.val ()) dKf t0,defers:=[] } W):(Code.region 12 dKi true).wp prog Q a w:=by
 have hsz:dKi.size=8:=by kernel_rfl
 refine dCy (ds:=dKf) (val:=C.val) (G:=C.gg) (by kernel_rfl) (by kernel_rfl) (by decide) (fun p hp=>?_) (by kernel_rfl) ?_ (γ:=()) hdf ht (by rw[hw];exact Br _ _) (fun _ _ W _ hg=>hQ W hg)
 ·rw[M.sz];have:∀p,p∈dKf->p.2<55:=by decide
  exact this p hp
 ·intro γ l a w i H hr;cases γ;have hi:i<8:=by
   obtain⟨_,o,ho,_⟩:=mem_ready.1 hr;have:=(Ai.1 ho).1;rw[hsz] at this;exact this
  have lo0:=H.low (s:=0) (by decide) M.lo0;have lo2:=H.low (s:=2) (by decide) M.lo2;have lo3:=H.low (s:=3) (by decide) M.lo3;have lo5:=H.low (s:=5) (by decide) M.lo5;have lo12:=H.low (s:=12) (by decide) M.lo12;have hb:=H.g
  match i,hi,hr with
  |0,_,hr =>
   exact aWj (.move (.tmp 0)) (.slice (some ⟨C.g,C.o,none⟩) C.n C.cap) (fun o h=>by simp[execOp,h,lo0,go_sem]) hb
  |1,_,hr =>
   exact aWj (.move (.tmp 12)) (.int .i64 (C.k:Int)) (fun o h=>by simp[execOp,h,lo12,go_sem]) hb
  |2,_,hr =>
   have v0:a.tmps[42]?=some (.slice (some ⟨C.g,C.o,none⟩) C.n C.cap):=H.dep hr 0 42;have v1:a.tmps[43]?=some (.int .i64 (C.k:Int)):=H.dep hr 1 43;have hi1:=M.hi;have hn1:=M.hn;have hi2:(C.k:Int)<C.n:=by omega
   exact aWj (.indexAddr 22 (.tmp 42) (.tmp 43)) (.pointer (some ⟨C.g,C.o+C.k*7,none⟩)) (fun o h=>by simp[execOp,h,v0,v1,hi2,go_sem]) hb
  |3,_,hr =>
   have v2:a.tmps[44]?=some (.pointer (some ⟨C.g,C.o+C.k*7,none⟩)):=H.dep hr 2 44;have hy:∀j u,C.y.cs[j]?=some u->w.cell? ⟨C.g,C.o+C.k*7+j,none⟩=some u:=fun j u hu=>(hb.cell (p:=⟨C.g,C.o+C.k*7+j,none⟩) M.kg).trans (M.ky j u hu)
   exact aWj (.load 49 (.tmp 44)) (.agg C.y.cs) (fun o h=>by exact dC4 h (by simp[Act.eval,v2]) hy underlying49 rfl (dF7 _)) hb
  |4,_,hr =>
   have hk:=(M.kx.overW hb M.kx.1).at0;exact aWj (.load 42 (.tmp 5)) (.agg C.x.cs) (fun o h=>by exact dC4 h (by simp[Act.eval,lo5]) hk underlying42 rfl (dEz _)) hb
  |5,_,hr =>
   exact aWj (.move (.tmp 2)) (.int .i64 C.d) (fun o h=>by simp[execOp,h,lo2,go_sem]) hb
  |6,_,hr =>
   exact aWj (.move (.tmp 3)) (.int .i64 C.wash) (fun o h=>by simp[execOp,h,lo3,go_sem]) hb
  |7,_,hr =>
   have v3:a.tmps[45]?=some (.agg C.y.cs):=H.dep hr 3 45;have v4:a.tmps[46]?=some (.agg C.x.cs):=H.dep hr 4 46;have v5:a.tmps[47]?=some (.int .i64 C.d):=H.dep hr 5 47;have v6:a.tmps[48]?=some (.int .i64 C.wash):=H.dep hr 6 48;refine gA (f:=74) (lb:=#[]) (c:=.func 74) (args:=#[(.tmp 45),(.tmp 46),(.tmp 47),(.tmp 48)]) (ts:=#[49,42,24,3]) (vs:=#[.agg C.y.cs,.agg C.x.cs,.int .i64 C.d,.int .i64 C.wash]) (by kernel_rfl) rfl (aXb func74) (by simp[Act.eval,v3,v4,v5,v6]) ((M.hr _ hb).mono ?_);rintro e w' ⟨rfl,hb'⟩;exact⟨_,(),rfl,rfl,fun _ _=>rfl,aA hb hb'⟩
  |n+8,h,_=>exact absurd h (by omega)
end
end
section
open Go Go.RowKit Num
attribute [local go_sem] eW eN aV nW
theorem dJg(zs:List Int)(a1 a2:Option Addr)(c1 c2:Nat)(w:World)(hl:zs.length<=1000000)(h1:Mx w a1 zs)(h2:Mx w a2 zs):
  Calls prog 32 #[.slice a1 zs.length c1,.slice a2 zs.length c2] w fun e w'=>e=.returned (.bool true)/\Below w.heap.size w w':=by
 have H1:=Hd h1;have H2:=Hd h2;clear h1 h2;go_enter func32,ntmps32;go_wp2;go_loopw [13] (fun i W=>Hid (Below w.heap.size w W)/\∃k:Nat,k<=zs.length/\i=.int .i64 (k:Int)) (fun i _=>zs.length-(intOf i).toNat)
 case atStart=>exact⟨Br _ _,0,Nat.zero_le _,rfl⟩
 case round =>
  obtain⟨HB,k,hk,rfl⟩:=hrel
  by_cases hlt:k<zs.length
  ·obtain⟨s,hs⟩:∃s,zs[k]?=some s:=⟨zs[k],Lg hlt⟩
   obtain⟨b1,o1,ha1,k1⟩:=(H1.out.below HB.out).addr hs;obtain⟨b2,o2,ha2,k2⟩:=(H2.out.below HB.out).addr hs;subst ha1 ha2;clear hs;go_wp2_with fail;go_quiet (fail);go_wp2;go_round
   case rel=>exact⟨aD HB.out _,k+1,by omega,by go_num⟩
   case measure=>simp[intOf];omega
  ·obtain rfl:k=zs.length:=by omega
   go_wp2;go_ret;exact⟨rfl,HB.out⟩
theorem dKd{gs:List aLe}(h:gs.any aLe.bad=false):∀x,x∈gs->x.err=0:=fun x hx=>by
 rw[List.any_eq_false] at h;have:=h x hx;unfold aLe.bad at this;simpa using this
def dKn(zs:List Int)(z:Int)(e:Ending)(B0:Nat)(W:World):Prop:=∃v,e=.returned (.tuple #[v,.int .i64 z])/\W.ownsRow B0 3 1 v zs.length (zs.map (Value.int .i64))
theorem dJ3(gs:List aLe)(a:Option Addr)(c:Nat)(ins:List UInt8)(d wash:Int)(w:World)(hn:gs.length<=1000)(hw:aL3 w a gs)(hs:∀x,x∈gs->x.small):
  Calls prog 30 #[.slice a gs.length c,.string ⟨ins.toArray⟩,.int .i64 d,.int .i64 wash] w fun e w'=>dKn (dDj gs ins d wash) (dEk [] gs d wash []) e w.heap.size w'/\Below w.heap.size w w':=by
 have HC:=Hd (dJf gs a c w hn hw hs);have HWN:=Hd (fun W=>dJ4 d wash W);have HR:Hid (dDj gs ins d wash=if dEk [] gs d wash []=0 then dEe (fun x=>dAv x ins d wash) gs 0 else[]):=rfl;have HCK:Hid (dEk [] gs d wash []=if gs.any aLe.bad=true then 1 else dI9 d wash):=by
  show _=_;rw[dJs,show aO6 []=0 from rfl];simp
 have HGX:=Hd (fun h=>dKd (gs:=gs) h);have HIN:=Hd (fun h=>(dEs (ls:=[]) (gs:=gs) (d:=d) (wash:=wash) (ss:=[]) h).2.2);have HW:=Hd hw;have HS:=Hd hs;obtain⟨i0,hi,hz0,hz1,hz2⟩:=info_parts aO7;clear hw hs;generalize dEk [] gs d wash []=ck at *;generalize dDj gs ins d wash=rr at *;generalize hbb:gs.any aLe.bad=bb at *;generalize dI9 d wash=wn at *;go_enter func30,ntmps30;go_wp2_with fail;refine HC.out.mono ?_;rintro e w1 ⟨⟨z,rfl,hz⟩,hb⟩;have HB1:=Hd hb;clear hb HC;cases bb with
 |true =>
  have hzn:z≠0:=of_decide_eq_true hz;have hz':(z==0)=false:=by simpa using hzn
  obtain rfl:ck=1:=by rw[HCK.out,if_pos rfl]
  have HRn:Hid (rr=[]):=by show _=_;rw[HR.out,if_neg (by decide)]
  clear HR HCK hz hzn;go_wp2;go_ret2;rw[HRn.out];exact⟨⟨_,rfl,World.ownsRow_nil _ _ _ _⟩,HB1.out⟩
 |false =>
  obtain rfl:z=0:=by simpa using of_decide_eq_false hz
  obtain rfl:ck=wn:=by rw[HCK.out,if_neg (by decide)]
  have HGX2:=Hd (HGX.out rfl);clear hz HCK HGX;go_wp2_with fail;refine(HWN.out _).mono ?_;rintro e w2 ⟨rfl,hb⟩;have HB2:=Hd (aA HB1.out hb);clear hb HB1 HWN
  by_cases g:ck=0
  case neg =>
   have g':(ck==0)=false:=by simpa using g
   have HRn:Hid (rr=[]):=by show _=_;rw[HR.out,if_neg g]
   clear HR HIN;go_wp2;go_ret2;rw[HRn.out];exact⟨⟨_,rfl,World.ownsRow_nil _ _ _ _⟩,HB2.out⟩
  have HIN2:=Hd (HIN.out g);clear HIN;have HR2:Hid (rr=dEe (fun x=>dAv x ins d wash) gs 0):=by show _=_;rw[HR.out,if_pos g]
  clear HR;subst g;have HB3:Hid (Below w.heap.size w (w2.alloc (.cells #[] 3))):=aA HB2.out (aB _ _);have HO3:Hid ((w2.alloc (.cells #[] 3)).ownsRow w.heap.size 3 1 (.slice (some ⟨w2.heap.size,0,none⟩) 0 0) 0 []):=World.ownsRow_made w2 #[] 0 HB2.out.size (Nat.zero_le _) rfl;go_wp2;go_loopw [11,12] (fun ov iv W=>Hid (Below w.heap.size w W)/\∃k:Nat,k<=gs.length/\iv=.int .i64 (k:Int)/\Hid (W.ownsRow w.heap.size 3 1 ov (dEe (fun x=>dAv x ins d wash) (gs.take k) 0).length ((dEe (fun x=>dAv x ins d wash) (gs.take k) 0).map (Value.int .i64)))) (fun _ iv _=>gs.length-(intOf iv).toNat)
  case atStart=>exact⟨HB3,0,Nat.zero_le _,rfl,HO3⟩
  case round =>
   clear HB3 HO3 HB2;obtain⟨HB,k,hk,rfl,HO⟩:=hrel
   by_cases hlt:k<gs.length
   ·obtain⟨x,hx⟩:∃x,gs[k]?=some x:=⟨gs[k],Lg hlt⟩
    obtain⟨b,off,ha,k0,k1,k2,k3,k4,k5,k6,k7,k8,k9⟩:=(HW.out.below HB.out).addr hx;subst ha;have hxm:=List.mem_of_getElem? hx;have HD:=Hd (fun W=>dJi x ins d wash W (HS.out x hxm) (HGX2.out x hxm) ⟨HIN2.out.w0,HIN2.out.w1⟩);have HK:=Hd (dIm (fun x=>dAv x ins d wash) hx);have HFL:Hid ((dEe (fun x=>dAv x ins d wash) (gs.take k) 0).length<=k):=Nat.le_trans (dHl _ _ _) (by simp;omega);clear hx hxm;simp only[aLe.v,aLe.cs] at HD;generalize dAv x ins d wash=bx at *;obtain⟨s',hs'⟩:∃s',s'=dEe (fun x=>dAv x ins d wash) (gs.take (k+1)) 0:=⟨_,rfl⟩
    rw[<-hs'] at HK;have HS':=Hd hs';clear hs';generalize dEe (fun x=>dAv x ins d wash) (gs.take k) 0=s at *;go_wp2_with fail;refine(HD.out _).mono ?_;rintro e w3 ⟨rfl,hb⟩;have HB4:=Hd (aA HB.out hb);have HO4:=Hd ((dCk.of_below _ hb).owns HO.out);have HSZ:=Hd HB4.out.size;clear k0 k1 k2 k3 k4 k5 k6 k7 k8 k9 hb HO HB HD;cases bx with
    |true =>
     have HK2:Hid (s'=s ++ [(k:Int)]):=by have h:=HK.out;rw[if_pos rfl] at h;exact h
     clear HK;have hfl:=HFL.out;go_wp2_with (at_builtin;refine wpList_append_own_at _ rfl _ _ 52 rfl w.heap.size 3 i0 (.int .i64 0) 1 8 underlying52 hi hz0 hz1 hz2 rfl (by decide) _ _ _ rfl (HO4.out.alloc _) ⟨w3.heap.size,0,none⟩ 1 1 [.int .i64 (k:Int)] rfl rfl (cell_one_new _ _ _) (by simp[Value.oneCell']) (by unfold maxLen;omega) (by omega) (by have:=HSZ.out;simp;omega) ?_);intro v' w5 hown' hgrow _ _;have HB5:=Hd (Ut (HO4.out.alloc (.cells #[.int .i64 (k:Int)] 3)) hgrow (aA HB4.out (aB _ _)) (by have:=HSZ.out;simp;omega));have HO5:Hid (w5.ownsRow w.heap.size 3 1 v' s'.length (s'.map (Value.int .i64))):=by
      show World.ownsRow _ _ _ _ _ _ _;rw[HK2.out];simpa using hown'
     clear hgrow hown';go_wp2;go_roundw
     case rel=>exact⟨HB5,k+1,by omega,by go_num,(by rw[<-HS'.out];exact HO5)⟩
     case measure=>simp[intOf];omega
    |false =>
     obtain rfl:s'=s:=by have h:=HK.out;rw[if_neg (by decide)] at h;exact h
     clear HK;go_wp2;go_roundw
     case rel=>exact⟨HB4,k+1,by omega,by go_num,(by rw[<-HS'.out];exact HO4)⟩
     case measure=>simp[intOf];omega
   ·obtain rfl:k=gs.length:=by omega
    rw[List.take_length] at HO;go_wp2;go_ret2;rw[HR2.out];exact⟨⟨_,rfl,HO.out⟩,HB.out⟩
theorem dJz(gs:List aLe)(a:Option Addr)(c:Nat)(ins:List UInt8)(w:World)(hn:gs.length<=12)(hw:aL3 w a gs)(hs:∀x,x∈gs->x.small):
  Calls prog 31 #[.slice a gs.length c,.string ⟨ins.toArray⟩] w fun e w'=>e=.returned (.tuple #[.string ⟨(dC2 gs ins).toArray⟩,.int .i64 (dEk [] gs 0 0 [])])/\Below w.heap.size w w':=by
 have HC:=Hd (dJf gs a c w (by omega) hw hs);have HR:Hid (dC2 gs ins=if dEk [] gs 0 0 []=0 then aJ (bXk (dBq ins) gs) else[]):=rfl;have HCK:Hid (dEk [] gs 0 0 []=if gs.any aLe.bad=true then 1 else 0):=by
  show _=_;rw[dJs,show aO6 []=0 from rfl,show dI9 0 0=0 by decide];simp
 have HW:=Hd hw;have HS:=Hd hs;have hbd:∀k,(bXk (dBq ins) (gs.take k)).natAbs<=12*10000000000000:=fun k=>by
  have h1:(bXk (dBq ins) (gs.take k)).natAbs<=(gs.take k).length*10000000000000:=by
   have h0:∀l:List aLe,(∀x,x∈l->x∈gs)->(bXk (dBq ins) l).natAbs<=l.length*10000000000000:=by
    intro l
    induction l with
    |nil=>intro _;simp[bXk]
    |cons y l ih =>
     intro h;rw[bXl,List.length_cons,Nat.succ_mul];have h1:=ih fun z hz=>h z (List.mem_cons_of_mem _ hz)
     have h2:(dBq ins y).natAbs<=10000000000000:=by
      unfold dBq;split
      ·have:=aOf (hs y (h y List.mem_cons_self)).2.2.2.2.2.2.1;omega
      ·simp
     have h3:=Int.natAbs_add_le (dBq ins y) (bXk (dBq ins) l);omega
   exact h0 _ fun x hx=>List.mem_of_mem_take hx
  have h2:(gs.take k).length<=12:=by rw[List.length_take];omega
  have h3:(gs.take k).length*10000000000000<=12*10000000000000:=Nat.mul_le_mul_right _ h2;exact Nat.le_trans h1 h3
 have HBD:=Hd hbd;clear hw hs hbd;generalize dEk [] gs 0 0 []=ck at *;generalize dC2 gs ins=rr at *;generalize gs.any aLe.bad=bb at *;go_enter func31,ntmps31;go_wp2_with fail;refine HC.out.mono ?_;rintro e w1 ⟨⟨z,rfl,hz⟩,hb⟩;have HB1:=Hd hb;clear hb HC;cases bb with
 |true =>
  have hzn:z≠0:=of_decide_eq_true hz;have hz':(z==0)=false:=by simpa using hzn
  obtain rfl:ck=1:=by rw[HCK.out,if_pos rfl]
  obtain rfl:rr=[]:=by rw[HR.out,if_neg (by decide)]
  clear HR HCK hz hzn;go_wp2;go_ret2;exact⟨rfl,HB1.out⟩
 |false =>
  obtain rfl:z=0:=by simpa using of_decide_eq_false hz
  obtain rfl:ck=0:=by rw[HCK.out,if_neg (by decide)]
  have HR2:Hid (rr=aJ (bXk (dBq ins) gs)):=by show _=_;rw[HR.out,if_pos rfl]
  clear hz HCK HR;go_wp2;go_loopw [6,7] (fun t i W=>Hid (Below w.heap.size w W)/\∃k:Nat,k<=gs.length/\i=.int .i64 (k:Int)/\∃st:List UInt8,t=.string ⟨st.toArray⟩/\Hid (st=aJ (bXk (dBq ins) (gs.take k)))) (fun _ i _=>gs.length-(intOf i).toNat)
  case atStart=>exact⟨HB1,0,Nat.zero_le _,rfl,[],rfl,nA.symm⟩
  case round =>
   clear HB1;obtain⟨hB,k,hk,rfl,st,rfl,hst⟩:=hrel
   by_cases hlt:k<gs.length
   ·obtain⟨x,hx⟩:∃x,gs[k]?=some x:=⟨gs[k],Lg hlt⟩
    obtain⟨b,off,ha,k0,k1,k2,k3,k4,k5,k6,k7,k8,k9⟩:=(HW.out.below hB.out).addr hx;subst ha;have hfx:=(HS.out x (List.mem_of_getElem? hx)).2.2.2.2.2.2.1;have hv:(val st).natAbs<=12*10000000000000:=by rw[hst.out,bE];exact HBD.out k
    have hl:st.length<=20:=by rw[hst.out];exact Nat.le_trans (gC (K:=16) (by decide) (by have:=HBD.out k;omega)) (by decide)
    have HA:=Hd (fun W=>Wf st x.df W (by omega) (by omega) (by omega) (by have:=aOf hfx;omega));have HT:=Hd (dIj (dBq ins) hx);have HDX:Hid (dBq ins x=if x.ins=ins then val x.df else 0):=rfl;clear hx hfx hv hl
    by_cases hq:x.ins=ins
    ·have HSS:Hid (aJ (val st+val x.df)=aJ (bXk (dBq ins) (gs.take (k+1)))):=by
      show _=_;rw[HT.out,hst.out,bE,HDX.out,if_pos hq]
     have hq':(x.ins==ins)=true:=by simpa using hq
     clear HT HDX hq;go_wp2_with fail;refine(HA.out _).mono ?_;rintro e w3 ⟨rfl,rfl⟩;clear HA k0 k1 k2 k3 k4 k5 k6 k7 k8 k9;go_wp2;go_round
     case rel=>exact⟨hB,k+1,by omega,by go_num,_,rfl,HSS⟩
     case measure=>simp[intOf];omega
    ·have HSS:Hid (st=aJ (bXk (dBq ins) (gs.take (k+1)))):=by
      show _=_;rw[HT.out,HDX.out,if_neg hq,Int.add_zero];exact hst.out
     have hq':(x.ins==ins)=false:=by simpa using hq
     clear HT HDX HA hq;go_wp2;go_round
     case rel=>exact⟨hB,k+1,by omega,by go_num,_,rfl,HSS⟩
     case measure=>simp[intOf];omega
   ·obtain rfl:k=gs.length:=by omega
    obtain rfl:st=rr:=by rw[hst.out,List.take_length,HR2.out]
    go_wp2;go_ret2;exact⟨rfl,hB.out⟩
end
section
open Go Go.RowKit Num
attribute [local go_sem] eW eN aV
theorem dKc{w:World}{b off:Nat}{ls:List Bd}{k:Nat}{x:Bd}(h:Jj w (some ⟨b,off,none⟩) ls)(hx:ls[k]?=some x):∀j u,x.cs[j]?=some u->w.cell? ⟨b,off+k*7+j,none⟩=some u:=by
 obtain⟨b',off',e,k0,k1,k2,k3,k4,k5,k6⟩:=h.addr hx;injection e with e
 injection e with e1 e2
 subst e1 e2;intro j u hu
 match j,hu with
 |0,hu=>cases hu;exact k0
 |1,hu=>cases hu;exact k1
 |2,hu=>cases hu;exact k2
 |3,hu=>cases hu;exact k3
 |4,hu=>cases hu;exact k4
 |5,hu=>cases hu;exact k5
 |6,hu=>cases hu;exact k6
 |n+7,hu=>simp[Bd.cs] at hu
theorem dIr(ls:List Bd)(x:aLe)(a:Option Addr)(c:Nat)(d wash:Int)(w:World)(hn:ls.length<=1000000)(hcap:ls.length<=c)(hw:Jj w a ls)(hs:∀y,y∈ls->y.small/\y.q.length<=13/\y.u.length<=13)(wx:x.small):
  Calls prog 34 #[.slice a ls.length c,x.v,.int .i64 d,.int .i64 wash] w fun e w'=>dKn (dIq ls x d wash) (dEk ls [x] d wash []) e w.heap.size w'/\Below w.heap.size w w':=by
 have hba:=aB w (.cells x.cs 42);have HB0:=Hd hba;have KX0:=Hd (aP.new0 w x.cs 42);have HC:=Hd (dAg ls a c (w.alloc (.cells x.cs 42)) hn hcap (hw.below hba) (fun y hy=>(hs y hy).1));have HX:=Hd (fun W=>aMz x W wx);have HWN:=Hd (fun W=>dJ4 d wash W);have HR:Hid (dIq ls x d wash=if dEk ls [x] d wash []=0 then(if dAv x x.ins d wash=true then dEe (fun y=>dAz y x d wash) ls 0 else[]) else[]):=rfl;have HCK:Hid (dEk ls [x] d wash []=if aO6 ls≠0∨x.err≠0 then 1 else dI9 d wash):=by
  show _=_;rw[dJs];simp[aLe.bad]
 have HIN:=Hd (fun h=>dEs (ls:=ls) (gs:=[x]) (d:=d) (wash:=wash) (ss:=[]) h);have HD:=Hd (fun (hin:dKj d wash) (gx:x.err=0) W=>dJi x x.ins d wash W wx gx ⟨hin.w0,hin.w1⟩);have HRP:=Hd (fun (hin:dKj d wash) (gx:x.err=0) (y:Bd) (hy:y∈ls) (gy:y.err=0) W=>dJy y x d wash W (hs y hy).2.1 (hs y hy).2.2 gy gx ⟨hin.w0,hin.w1⟩);have HW:=Hd hw;obtain⟨i0,hi,hz0,hz1,hz2⟩:=info_parts aO7;clear hw hs wx hba;generalize dEk ls [x] d wash []=ck at *;generalize dIq ls x d wash=rr at *;generalize aO6 ls=le at *;generalize dI9 d wash=wn at *;have hv:x.v=.agg x.cs:=rfl;simp only[aLe.v,aLe.cs] at HB0 KX0 HC HX HD ⊢;clear hv;go_enter func34,ntmps34;go_wp2_with fail;generalize w.alloc _=w0 at *;refine HC.out.mono ?_;rintro e w1 ⟨rfl,hb⟩;have HB1:=Hd (aA HB0.out hb);have KX1:=Hd (KX0.out.below hb);clear hb HC HB0 KX0
 by_cases g0:le=0
 case neg =>
  have g0':(le==0)=false:=by simpa using g0
  have g0'':(le != 0)=true:=by simpa using g0
  obtain rfl:ck=1:=by rw[HCK.out,if_pos (.inl g0)]
  have HRn:Hid (rr=[]):=by show _=_;rw[HR.out,if_neg (by decide)]
  clear HR HCK HIN;go_wp2;go_ret2;rw[HRn.out];exact⟨⟨_,rfl,World.ownsRow_nil _ _ _ _⟩,HB1.out⟩
 subst g0;have c0:=KX1.out.cell 0;have c1:=KX1.out.cell 1;have c2:=KX1.out.cell 2;have c3:=KX1.out.cell 3;have c4:=KX1.out.cell 4;have c5:=KX1.out.cell 5;have c6:=KX1.out.cell 6;have c7:=KX1.out.cell 7;have c8:=KX1.out.cell 8;have c9:=KX1.out.cell 9;go_wp2_with fail;refine(HX.out _).mono ?_;rintro e w2 ⟨rfl,hb⟩;have HB2:=Hd (aA HB1.out hb);have KX2:=Hd (KX1.out.below hb);clear hb HX HB1 KX1 c0 c1 c2 c3 c4 c5 c6 c7 c8 c9
 by_cases g1:x.err=0
 case neg =>
  have g1':(x.err==0)=false:=by simpa using g1
  obtain rfl:ck=1:=by rw[HCK.out,if_pos (.inr g1)]
  have HRn:Hid (rr=[]):=by show _=_;rw[HR.out,if_neg (by decide)]
  clear HR HCK HIN HD HRP HWN;generalize x.err=er at *;go_wp2;go_ret2;rw[HRn.out];exact⟨⟨_,rfl,World.ownsRow_nil _ _ _ _⟩,HB2.out⟩
 obtain rfl:ck=wn:=by rw[HCK.out,if_neg (by simp[g1])]
 have HGX:=Hd g1;rw[g1];clear g1 HCK;go_wp2_with fail;refine(HWN.out _).mono ?_;rintro e w3 ⟨rfl,hb⟩;have HB3:=Hd (aA HB2.out hb);have KX3:=Hd (KX2.out.below hb);clear hb HWN HB2 KX2
 by_cases g:ck=0
 case neg =>
  have g':(ck==0)=false:=by simpa using g
  have HRn:Hid (rr=[]):=by show _=_;rw[HR.out,if_neg g]
  clear HR HIN;go_wp2;go_ret2;rw[HRn.out];exact⟨⟨_,rfl,World.ownsRow_nil _ _ _ _⟩,HB3.out⟩
 obtain⟨hok,_,hin⟩:=HIN.out g;have HR2:Hid (rr=if dAv x x.ins d wash=true then dEe (fun y=>dAz y x d wash) ls 0 else[]):=by show _=_;rw[HR.out,if_pos g]
 have HD2:=Hd (HD.out hin HGX.out);have HRP2:=Hd (fun y hy=>HRP.out hin HGX.out y hy (hok.ok y hy));clear HR HIN HD HRP hok hin;subst g;have hba:=aB w3 (.cells #[] 3);have HB4:=Hd (aA HB3.out hba);have KX4:=Hd (KX3.out.below hba);have HO4:Hid ((w3.alloc (.cells #[] 3)).ownsRow (w.heap.size+1) 3 1 (.slice (some ⟨w3.heap.size,0,none⟩) 0 0) 0 []):=World.ownsRow_made w3 #[] 0 KX3.out.1 (Nat.zero_le _) rfl;have c0:=KX4.out.cell 0;have c1:=KX4.out.cell 1;have c2:=KX4.out.cell 2;have c3:=KX4.out.cell 3;have c4:=KX4.out.cell 4;have c5:=KX4.out.cell 5;have c6:=KX4.out.cell 6;have c7:=KX4.out.cell 7;have c8:=KX4.out.cell 8;have c9:=KX4.out.cell 9;clear hba HB3 KX3;generalize hdb:dAv x x.ins d wash=db at *;clear hdb;go_upto_region 7 with fail
 generalize hww:w3.alloc _=w4 at *;clear hww;go_wp2_with fail;refine(HD2.out _).mono ?_;rintro e w5 ⟨rfl,hb⟩;have HB5:=Hd (aA HB4.out hb);have KX5:=Hd (KX4.out.below hb);have HO5:=Hd ((dCk.of_below _ hb).owns HO4.out);clear hb HD2 HB4 KX4 HO4 c0 c1 c2 c3 c4 c5 c6 c7 c8 c9;cases db with
 |false =>
  have HRn:Hid (rr=[]):=by show _=_;rw[HR2.out,if_neg (by decide)]
  clear HR2;go_wp2;go_ret2;rw[HRn.out];exact⟨⟨_,rfl,dDt HO5.out (Nat.le_succ _)⟩,HB5.out⟩
 |true =>
  have HR3:Hid (rr=dEe (fun y=>dAz y x d wash) ls 0):=by show _=_;rw[HR2.out,if_pos rfl]
  clear HR2;go_wp2;go_loopw [11,12] (fun ov iv W=>Hid (Below w.heap.size w W)/\Hid (aP W w.heap.size x.cs 42)/\∃k:Nat,k<=ls.length/\iv=.int .i64 (k:Int)/\Hid (W.ownsRow (w.heap.size+1) 3 1 ov (dEe (fun y=>dAz y x d wash) (ls.take k) 0).length ((dEe (fun y=>dAz y x d wash) (ls.take k) 0).map (Value.int .i64)))) (fun _ iv _=>ls.length-(intOf iv).toNat)
  case atStart=>exact⟨HB5,KX5,0,Nat.zero_le _,rfl,HO5⟩
  case round =>
   clear HB5 KX5 HO5;obtain⟨HB,KX,k,hk,rfl,HO⟩:=hrel
   by_cases hlt:k<ls.length
   ·obtain⟨y,hy⟩:∃y,ls[k]?=some y:=⟨ls[k],Lg hlt⟩
    have hlb:=HW.out.below HB.out;obtain⟨b,off,ha,k0,_⟩:=hlb.addr hy;subst ha;have HYC:Hid (∀j u,y.cs[j]?=some u->wr.cell? ⟨b,off+k*7+j,none⟩=some u):=dKc hlb hy;have HYL:Hid (b<wr.heap.size):=dG6 k0;have HP:=Hd (HRP2.out y (List.mem_of_getElem? hy));have HK:=Hd (dIm (fun y=>dAz y x d wash) hy);have HFL:Hid ((dEe (fun y=>dAz y x d wash) (ls.take k) 0).length<=k):=Nat.le_trans (dHl _ _ _) (by simp;omega);clear hy hlb k0;generalize dAz y x d wash=bx at *;obtain⟨s',hs'⟩:∃s',s'=dEe (fun y=>dAz y x d wash) (ls.take (k+1)) 0:=⟨_,rfl⟩
    rw[<-hs'] at HK;have HS':=Hd hs';clear hs';generalize dEe (fun y=>dAz y x d wash) (ls.take k) 0=s at *;go_upto_region 12 with fail
    refine dKb (C:=⟨wr.drewN 1,b,off,ls.length,c,k,y,w.heap.size,x,d,wash,bx⟩) ?M rfl rfl rfl ?_
    case M =>
     have hd:=aD (Br wr.heap.size wr) 1;exact⟨rfl,rfl,rfl,rfl,rfl,rfl,KX.out.below hd,HYL.out,HYC.out,hlt,hn,fun W hW=>HP.out W⟩
    intro V hV;have hV:=aA (aD (Br wr.heap.size wr) 1) hV;have HB6:=Hd (aA HB.out hV);have KX6:=Hd (KX.out.below hV);have HO6:=Hd ((dCk.of_below _ hV).owns HO.out);have HSZ:=Hd KX6.out.1;clear hV HB KX HO HYC HYL HP;simp only[iZ,dKf,List.foldl,List.setIfInBounds_toArray,List.set_cons_zero,List.set_cons_succ,dKe.val];cases bx with
    |true =>
     have HK2:Hid (s'=s ++ [(k:Int)]):=by have h:=HK.out;rw[if_pos rfl] at h;exact h
     clear HK;have hfl:=HFL.out;go_wp2_with (at_builtin;refine wpList_append_own_at _ rfl _ _ 52 rfl (w.heap.size+1) 3 i0 (.int .i64 0) 1 8 underlying52 hi hz0 hz1 hz2 rfl (by decide) _ _ _ rfl (HO6.out.alloc _) ⟨V.heap.size,0,none⟩ 1 1 [.int .i64 (k:Int)] rfl rfl (cell_one_new _ _ _) (by simp[Value.oneCell']) (by unfold maxLen;omega) (by omega) (by have:=HSZ.out;simp;omega) ?_);intro v' w7 hown' hgrow _ _;have hb3:Below (w.heap.size+1) V w7:=Ut (HO6.out.alloc (.cells #[.int .i64 (k:Int)] 3)) hgrow ((aB _ _).mono (by have:=HSZ.out;omega)) (by have:=HSZ.out;simp;omega);have HB7:=Hd (HB6.out.trans (hb3.mono (Nat.le_succ _)));have KX7:=Hd (KX6.out.overW hb3 (Nat.lt_succ_self _));have HO7:Hid (w7.ownsRow (w.heap.size+1) 3 1 v' s'.length (s'.map (Value.int .i64))):=by
      show World.ownsRow _ _ _ _ _ _ _;rw[HK2.out];simpa using hown'
     clear hgrow hown' hb3;go_wp2;go_roundw
     case rel=>exact⟨HB7,KX7,k+1,by omega,by go_num,(by rw[<-HS'.out];exact HO7)⟩
     case measure=>simp[intOf];omega
    |false =>
     obtain rfl:s'=s:=by have h:=HK.out;rw[if_neg (by decide)] at h;exact h
     clear HK;go_wp2;go_roundw
     case rel=>exact⟨HB6,KX6,k+1,by omega,by go_num,(by rw[<-HS'.out];exact HO6)⟩
     case measure=>simp[intOf];omega
   ·obtain rfl:k=ls.length:=by omega
    rw[List.take_length] at HO;go_wp2;go_ret2;rw[HR3.out];exact⟨⟨_,rfl,dDt HO.out (Nat.le_succ _)⟩,HB.out⟩
end
end Go.Proofs.YtiloklnjjfaagaaGreatDoor
