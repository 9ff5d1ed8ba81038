/- WCompleteR WashsaleCompleteLaw -/
import Derived.Test.YtiloklnjjfaagaaGreatDoorWA
set_option maxHeartbeats 16000000
set_option maxRecDepth 100000
namespace Go.Proofs.YtiloklnjjfaagaaGreatDoor
open Go.Proofs.Tryz
section
open Go Go.RowKit Num
noncomputable def dKl:Array Oper:=(f6.body.bind (dDa 15)).getD #[]
def dKc:List (Nat×Nat):=[(0,78),(1,79),(2,80),(3,81),(4,82),(5,83),(6,84),(7,85),(8,86),(9,87),(10,77),(11,88),(12,89),(13,21),(14,22)]
structure dJ8 where
 W0:World
 rb:Nat
 la:Option Addr
 ln:Nat
 lc:Nat
 g:Nat
 o:Nat
 gn:Nat
 gc:Nat
 r2:Value
 r3:Value
 i:Nat
 x:aLe
 d:Int
 wash:Int
def dJ8.val(C:dJ8)(_:Unit):Nat->Value
 |0=>.pointer (some ⟨C.rb,0,none⟩)
 |1=>.slice C.la C.ln C.lc
 |2=>.pointer (some ⟨C.rb,1,none⟩)
 |3=>.slice (some ⟨C.g,C.o,none⟩) C.gn C.gc
 |4=>.int .i64 (C.i:Int)
 |5=>.pointer (some ⟨C.g,C.o+C.i*10,none⟩)
 |6=>.agg C.x.cs
 |7=>.int .i64 C.d
 |8=>.int .i64 C.wash
 |9=>.tuple #[.slice none 0 0,.int .i64 0]
 |10=>.tuple #[.slice none 0 0,.int .i64 0]
 |11=>.slice none 0 0
 |12=>.int .i64 0
 |13=>.slice none 0 0
 |_=>.int .i64 0
def dJ8.gg(C:dJ8)(_:Unit)(_:Array Bool)(W:World):Prop:=Below C.W0.heap.size C.W0 W
structure dKr(C:dJ8)(t0:Array Value):Prop where
 sz:t0.size=164
 lo3:t0[3]?=some (.int .i64 C.d)
 lo5:t0[5]?=some (.int .i64 C.wash)
 lo13:t0[13]?=some (.pointer (some ⟨C.rb,0,none⟩))
 lo18:t0[18]?=some (.int .i64 (C.i:Int))
 kr:aP C.W0 C.rb #[.slice C.la C.ln C.lc,.slice (some ⟨C.g,C.o,none⟩) C.gn C.gc,C.r2,C.r3] 30
 kg:C.g<C.W0.heap.size
 kx:∀j u,C.x.cs[j]?=some u->C.W0.cell? ⟨C.g,C.o+C.i*10+j,none⟩=some u
 hi:C.i<C.gn
 hn:C.gn<=1000000
 hr:∀W,Below C.W0.heap.size C.W0 W->Calls prog 23 #[.slice C.la C.ln C.lc,.agg C.x.cs,.int .i64 C.d,.int .i64 C.wash] W fun e w'=>e=.returned (.tuple #[.slice none 0 0,.int .i64 0])/\Below W.heap.size W w'
section
variable {C:dJ8}{t0:Array Value}{Q:Exit->Act->World->Prop}
theorem dJ4(M:dKr C t0){a:Act}{w:World}(hdf:a.defers=[])(ht:a.tmps=t0)(hw:w.drewN 1=C.W0)
  (hQ:∀W,Below C.W0.heap.size C.W0 W->Q .normal { tmps:=iZ (C.val ()) dKc t0,defers:=[] } W):(Code.region 15 dKl true).wp prog Q a w:=by
 have hsz:dKl.size=15:=by kernel_rfl
 refine dCy (ds:=dKc) (val:=C.val) (G:=C.gg) (by kernel_rfl) (by kernel_rfl) (by decide) (fun p hp=>?_) (by kernel_rfl) ?_ (γ:=()) hdf ht (by rw[hw];exact Br _ _) (fun _ _ W _ hg=>hQ W hg)
 ·rw[M.sz];have:∀p,p∈dKc->p.2<164:=by decide
  exact this p hp
 ·intro γ l a w i H hr;cases γ;have hi:i<15:=by
   obtain⟨_,o,ho,_⟩:=mem_ready.1 hr;have:=(Ai.1 ho).1;rw[hsz] at this;exact this
  have lo3:=H.low (s:=3) (by decide) M.lo3;have lo5:=H.low (s:=5) (by decide) M.lo5;have lo13:=H.low (s:=13) (by decide) M.lo13;have lo18:=H.low (s:=18) (by decide) M.lo18;have hb:=H.g
  match i,hi,hr with
  |0,_,hr =>
   exact aWj (.fieldAddr 30 (.tmp 13) 0) (.pointer (some ⟨C.rb,0,none⟩)) (fun o h=>by simp[execOp,h,lo13,go_sem]) hb
  |1,_,hr =>
   have v0:a.tmps[78]?=some (.pointer (some ⟨C.rb,0,none⟩)):=H.dep hr 0 78;have c0:w.cell? ⟨C.rb,0,none⟩=some (.slice C.la C.ln C.lc):=(hb.cell (p:=⟨C.rb,0,none⟩) M.kr.1).trans ((M.kr.cell 0).trans rfl);exact aWj (.load 22 (.tmp 78)) (.slice C.la C.ln C.lc) (fun o h=>by simp[execOp,h,v0,c0,go_sem]) hb
  |2,_,hr =>
   exact aWj (.fieldAddr 30 (.tmp 13) 1) (.pointer (some ⟨C.rb,1,none⟩)) (fun o h=>by simp[execOp,h,lo13,go_sem]) hb
  |3,_,hr =>
   have v2:a.tmps[80]?=some (.pointer (some ⟨C.rb,1,none⟩)):=H.dep hr 2 80;have c1:w.cell? ⟨C.rb,1,none⟩=some (.slice (some ⟨C.g,C.o,none⟩) C.gn C.gc):=(hb.cell (p:=⟨C.rb,1,none⟩) M.kr.1).trans ((M.kr.cell 1).trans rfl);exact aWj (.load 23 (.tmp 80)) (.slice (some ⟨C.g,C.o,none⟩) C.gn C.gc) (fun o h=>by simp[execOp,h,v2,c1,go_sem]) hb
  |4,_,hr =>
   exact aWj (.move (.tmp 18)) (.int .i64 (C.i:Int)) (fun o h=>by simp[execOp,h,lo18,go_sem]) hb
  |5,_,hr =>
   have v3:a.tmps[81]?=some (.slice (some ⟨C.g,C.o,none⟩) C.gn C.gc):=H.dep hr 3 81;have v4:a.tmps[82]?=some (.int .i64 (C.i:Int)):=H.dep hr 4 82;have hi1:=M.hi;have hn1:=M.hn;have hi2:(C.i:Int)<C.gn:=by omega
   exact aWj (.indexAddr 23 (.tmp 81) (.tmp 82)) (.pointer (some ⟨C.g,C.o+C.i*10,none⟩)) (fun o h=>by simp[execOp,h,v3,v4,hi2,go_sem]) hb
  |6,_,hr =>
   have v5:a.tmps[83]?=some (.pointer (some ⟨C.g,C.o+C.i*10,none⟩)):=H.dep hr 5 83;have hx:∀j u,C.x.cs[j]?=some u->w.cell? ⟨C.g,C.o+C.i*10+j,none⟩=some u:=fun j u hu=>(hb.cell (p:=⟨C.g,C.o+C.i*10+j,none⟩) M.kg).trans (M.kx j u hu)
   exact aWj (.load 42 (.tmp 83)) (.agg C.x.cs) (fun o h=>by exact dC4 h (by simp[Act.eval,v5]) hx underlying42 rfl (dEz _)) hb
  |7,_,hr =>
   exact aWj (.move (.tmp 3)) (.int .i64 C.d) (fun o h=>by simp[execOp,h,lo3,go_sem]) hb
  |8,_,hr =>
   exact aWj (.move (.tmp 5)) (.int .i64 C.wash) (fun o h=>by simp[execOp,h,lo5,go_sem]) hb
  |9,_,hr =>
   have v1:a.tmps[79]?=some (.slice C.la C.ln C.lc):=H.dep hr 1 79;have v6:a.tmps[84]?=some (.agg C.x.cs):=H.dep hr 6 84;have v7:a.tmps[85]?=some (.int .i64 C.d):=H.dep hr 7 85;have v8:a.tmps[86]?=some (.int .i64 C.wash):=H.dep hr 8 86;refine gA (f:=23) (lb:=#[]) (c:=.func 23) (args:=#[(.tmp 79),(.tmp 84),(.tmp 85),(.tmp 86)]) (ts:=#[22,42,24,3]) (vs:=#[.slice C.la C.ln C.lc,.agg C.x.cs,.int .i64 C.d,.int .i64 C.wash]) (by kernel_rfl) rfl (aXb func23) (by simp[Act.eval,v1,v6,v7,v8]) ((M.hr _ hb).mono ?_);rintro e w' ⟨rfl,hb'⟩;exact⟨_,(),rfl,rfl,fun _ _=>rfl,aA hb hb'⟩
  |10,_,hr =>
   have v9:a.tmps[87]?=some (.tuple #[.slice none 0 0,.int .i64 0]):=H.dep hr 9 87;exact aWj (.move (.tmp 87)) (.tuple #[.slice none 0 0,.int .i64 0]) (fun o h=>by simp[execOp,h,v9,go_sem]) hb
  |11,_,hr =>
   have v10:a.tmps[77]?=some (.tuple #[.slice none 0 0,.int .i64 0]):=H.dep hr 10 77;exact aWj (.extract (.tmp 77) 0) (.slice none 0 0) (fun o h=>by simp[execOp,h,v10,go_sem]) hb
  |12,_,hr =>
   have v10:a.tmps[77]?=some (.tuple #[.slice none 0 0,.int .i64 0]):=H.dep hr 10 77;exact aWj (.extract (.tmp 77) 1) (.int .i64 0) (fun o h=>by simp[execOp,h,v10,go_sem]) hb
  |13,_,hr =>
   have v11:a.tmps[88]?=some (.slice none 0 0):=H.dep hr 11 88;exact aWj (.assign (.tmp 88)) (.slice none 0 0) (fun o h=>by simp[execOp,h,v11,go_sem]) hb
  |14,_,hr =>
   have v12:a.tmps[89]?=some (.int .i64 0):=H.dep hr 12 89;exact aWj (.assign (.tmp 89)) (.int .i64 0) (fun o h=>by simp[execOp,h,v12,go_sem]) hb
  |n+15,h,_=>exact absurd h (by omega)
end
end
section
open Go Go.RowKit Num
attribute [local go_sem] eW eN aV
theorem dJ6:bZp []:=(dB2 []).1 rfl
theorem dKh{t:bWs}{ins:List UInt8}{d wash:Int}(h:∀x,x∈t.gains->x.err=0)(I:dJ0 d wash):dEk [] t.gains d wash []=0/\dDw t.gains ins d wash=dEe (fun x=>dAv x ins d wash) t.gains 0:=by
 have h0:dEk [] t.gains d wash []=0:=dIi dJ6 h (fun s hs=>by cases hs) ⟨I.d0,I.d1⟩ ⟨I.w0,I.w1⟩;exact⟨h0,by unfold dDw;rw[if_pos h0]⟩
theorem dKg{t:bWs}{x:aLe}{d wash:Int}(h:bZp t.lots)(gx:x.err=0)(I:dJ0 d wash)(hn:∀y,y∈t.lots->dAz y x d wash=false):dEk t.lots [x] d wash []=0/\dJh t.lots x d wash=[]:=by
 have h0:dEk t.lots [x] d wash []=0:=dIi h (fun y hy=>by rw[List.mem_singleton.1 hy];exact gx) (fun s hs=>by cases hs) ⟨I.d0,I.d1⟩ ⟨I.w0,I.w1⟩;refine⟨h0,?_⟩;unfold dJh;rw[if_pos h0];split
 ·exact dGu _ _ _ hn
 ·rfl
theorem dJy{w:World}{b off:Nat}{gs:List aLe}{k:Nat}{x:aLe}(h:aL3 w (some ⟨b,off,none⟩) gs)(hx:gs[k]?=some x):∀j u,x.cs[j]?=some u->w.cell? ⟨b,off+k*10+j,none⟩=some u:=by
 obtain⟨b',off',e,k0,k1,k2,k3,k4,k5,k6,k7,k8,k9⟩:=h.addr hx;injection e with e
 injection e with e1 e2
 subst e1 e2;intro j u hu
 match j,hu with
 |0,hu=>cases hu;exact k0
 |1,hu=>cases hu;exact k1
 |2,hu=>cases hu;exact k2
 |3,hu=>cases hu;exact k3
 |4,hu=>cases hu;exact k4
 |5,hu=>cases hu;exact k5
 |6,hu=>cases hu;exact k6
 |7,hu=>cases hu;exact k7
 |8,hu=>cases hu;exact k8
 |9,hu=>cases hu;exact k9
 |n+10,hu=>simp[aLe.cs] at hu
theorem dDj(ls:List Bd)(gs:List aLe)(cause:List UInt8)(d:Int)(ins:List UInt8)(wash:Int)(a a2:Option Addr)(c c2:Nat)(w:World)(hE:iE w)(hn:ls.length<=9223372036854775807)(_hc:ls.length<=c)(hw:Jj w a ls)(hs:∀x,x∈ls->x.fits)
  (hn2:gs.length<=9223372036854775807) (_hc2:gs.length<=c2) (hw2:aL3 w a2 gs) (hs2:∀x,x∈gs->x.fits) (hcause:cause.length<=9223372036854775807) (hins:ins.length<=9223372036854775807) :
  Calls prog 6 #[.slice a ls.length c,.slice a2 gs.length c2,.string ⟨cause.toArray⟩,.int .i64 d,.string ⟨ins.toArray⟩,.int .i64 wash] w fun e w'=>e=.returned (.bool true)/\Below w.heap.size w w':=by
 have HA:=Hd (fun W (hb:Below w.heap.size w W)=>dHq W (hE.below hb));have H1:=Hd (dHp ls gs a c a2 c2 w hn hw hs hn2 hw2 hs2);have HE:=Hd hE;have HW:=Hd (And.intro hw hw2);have HCI:=Hd (And.intro hcause hins);clear hE hw hs hw2 hs2 hcause hins hn hn2 _hc _hc2;go_enter func6,ntmps6;go_wp2_with fail;refine H1.out.mono ?_;rintro e w1 ⟨rfl,hb⟩;have HB:=Hd hb;clear hb H1;cases hg:dFm ls gs
 case true =>
  go_wp2_with fail;refine(HA.out _ HB.out).mono ?_;rintro e w2 ⟨rfl,hb⟩;go_wp2;go_ret;exact⟨rfl,aA HB.out hb⟩
 have S:=Hd (dI2 hg);clear hg;have HP:=Hd (dIq ls gs a c a2 c2 cause ins d wash w1 (HE.out.below HB.out) S.out (HW.out.1.below HB.out) (HW.out.2.below HB.out) HCI.out.1 HCI.out.2);go_wp2_with fail;refine HP.out.mono ?_;rintro e w2 ⟨hap,hb⟩;have HB2:=Hd (aA HB.out hb);clear hb HP HB;rcases hap with⟨z,hz,rfl⟩|⟨t,la,lc,ga,gc,sa,sc,ea,en,ec,hEw,hI,hnm,rfl,hres⟩
 ·have hz':(z==0)=false:=by simpa using hz
  have HB3:=Hd (aA HB2.out (aB w2 (.cells #[.slice none 0 0,.slice none 0 0,.slice none 0 0,.slice none 0 0] 30)));go_wp2_with fail;generalize w2.alloc _=w3 at *;refine(HA.out _ HB3.out).mono ?_;rintro e w4 ⟨rfl,hb⟩;go_wp2;go_ret;exact⟨rfl,aA HB3.out hb⟩
 have E:=Hd hEw;have HI:=Hd (And.intro hI hnm);have hok:=hEw.keep.ok;obtain⟨hl0,hl1⟩:=dKh (ins:=ins) hok.gains hI;have HLS:=Hd (fun W (hb:Below w.heap.size w W) (hg:aL3 W ga t.gains)=>dJs t.gains ga gc ins d wash W (HE.out.below hb) (by have:=hEw.stOk.gl;omega) hg hEw.wideG);rw[hl0,hl1] at HLS;have HMEM:=Hd (fun z h=>dGl (fun x=>dAv x ins d wash) t.gains 0 z h);have HIL:Hid ((dEe (fun x=>dAv x ins d wash) t.gains 0).length<=1000000):=Nat.le_trans (dHl _ _ _) (by have:=hEw.stOk.gl;omega);have HAG:=Hd (fun W (hb:Below w.heap.size w W) (hl:Jj W la t.lots) (hg:aL3 W ga t.gains)=>dJf hEw hI hnm la lc ga gc W (HE.out.below hb) hl hg HCI.out.1 HCI.out.2);have HS1:=Hd (fun (a a2:Option Addr) (c c2:Nat) W h1 h2=>dHi t.lots a a2 c c2 W (by have:=hok.lots.len;omega) h1 h2);have HS2:=Hd (fun (a a2:Option Addr) (c c2:Nat) W h1 h2=>dBz t.gains a a2 c c2 W (by have:=hEw.fit.gl;omega) h1 h2);have hst:wash=0->t.lots=ls/\t.gains=gs:=fun h=>by
  have h2:=hEw.ends.still (fun j=>dCd ins d (by omega) _ j);have h3:=Option.some.inj h2;exact⟨by rw[h3],by rw[h3]⟩
 have HS3:Hid (wash=0->∀W,Jj W la t.lots->Jj W a ls->Calls prog 24 #[.slice la t.lots.length lc,.slice a ls.length c] W fun e w'=>e=.returned (.bool true)/\Below W.heap.size W w'):=fun h W h1 h2=>by
  rw[(hst h).1] at h1 ⊢;exact dHi ls la a lc c W (by have:=S.out.ll;omega) h1 h2
 have HS4:Hid (wash=0->∀W,aL3 W ga t.gains->aL3 W a2 gs->Calls prog 25 #[.slice ga t.gains.length gc,.slice a2 gs.length c2] W fun e w'=>e=.returned (.bool true)/\Below W.heap.size W w'):=fun h W h1 h2=>by
  rw[(hst h).2] at h1 ⊢;exact dBz gs ga a2 gc c2 W (by have:=S.out.gl;omega) h1 h2
 clear hst;have HGN:Hid (t.gains.length<=1000000):=hEw.stOk.gl;have KR:=Hd (aP.new0 w2 #[.slice la t.lots.length lc,.slice ga t.gains.length gc,.slice sa t.steps.length sc,.slice ea en ec] 30);have HB3:=Hd (aA HB2.out (aB w2 (.cells #[.slice la t.lots.length lc,.slice ga t.gains.length gc,.slice sa t.steps.length sc,.slice ea en ec] 30)));have HLT:=Hd (hres.lots.below (aB w2 (.cells #[.slice la t.lots.length lc,.slice ga t.gains.length gc,.slice sa t.steps.length sc,.slice ea en ec] 30)));have HGT:=Hd (hres.gains.below (aB w2 (.cells #[.slice la t.lots.length lc,.slice ga t.gains.length gc,.slice sa t.steps.length sc,.slice ea en ec] 30)));obtain⟨rb,hrb⟩:∃rb,rb=w2.heap.size:=⟨_,rfl⟩
 rw[<-hrb] at KR;clear hEw hres hI hnm hok hl0 hl1 HB2;go_wp2_with fail;rw[<-hrb];clear hrb;generalize w2.alloc _=w3 at *;refine(HLS.out _ HB3.out HGT.out).mono ?_;rintro e w4 ⟨⟨v,rfl,hown⟩,hb⟩;obtain⟨va,vc,rfl,hrow⟩:=gK hown;have HIN:=Hd (dKm hrow);have HB4:=Hd (aA HB3.out hb);have HLT:=Hd (HLT.out.below hb);have HGT:=Hd (HGT.out.below hb);have KR:=Hd (KR.out.below hb);clear hb HLS HB3 hown hrow;generalize dEe (fun x=>dAv x ins d wash) t.gains 0=ix at *;go_wp2_with fail;go_loopw [55] (fun i W=>Hid (Below w.heap.size w W)/\Hid (aP W rb #[.slice la t.lots.length lc,.slice ga t.gains.length gc,.slice sa t.steps.length sc,.slice ea en ec] 30)/\Hid (Jj W la t.lots)/\Hid (aL3 W ga t.gains)/\Hid (Mx W va ix)/\∃k:Nat,k<=ix.length/\i=.int .i64 (k:Int)) (fun i _=>ix.length-(intOf i).toNat)
 case atStart=>exact⟨HB4,KR,HLT,HGT,HIN,0,Nat.zero_le _,rfl⟩
 case round =>
  clear HB4 KR HLT HGT HIN;obtain⟨HB,KR,HLT,HGT,HIN,k,hk,rfl⟩:=hrel;have hil:=HIL.out
  by_cases hlt:k<ix.length
  ·obtain⟨z,hz⟩:∃z,ix[k]?=some z:=⟨ix[k],Lg hlt⟩
   obtain⟨i,x,rfl,hx,hd⟩:=HMEM.out z (List.mem_of_getElem? hz);rw[Nat.zero_add] at hz;obtain⟨bz,oz,hva,cz⟩:=HIN.out.addr hz;obtain⟨b1,o1,ha1,k0,k1,k2,k3,k4,k5,k6,k7,k8,k9⟩:=HGT.out.addr hx;subst hva ha1;have hix:=(Li.1 hx).1;have hgn:=HGN.out;have hi0:¬ (i:Int)<0:=by omega
   have hi1:¬ (t.gains.length:Int)<=(i:Int):=by omega
   have hi2:(i:Int)<t.gains.length:=by omega
   have gx:=E.out.keep.ok.gains x (List.mem_of_getElem? hx);have wx:=E.out.wideG x (List.mem_of_getElem? hx);obtain⟨hr0,hr1⟩:=dKg E.out.keep.ok.lots gx HI.out.1 (E.out.done i x hx hd);have HO:=Hd (fun W hW=>dKf x W hW wx);have hov:dJx x=aJ x.openV:=by unfold dJx;rw[if_pos gx]
   rw[if_pos gx,hov] at HO;have hol:(aJ x.openV).length<=10000:=by
    unfold aLe.openV;split
    ·rw[nA];simp
    ·have:=Np (l:=x.q) (m:=x.rp) (K:=1000) wx.2.2.2.1 wx.2.2.2.2.2.2.2;omega
   have HC:=Hd (fun W=>nV (aJ x.openV) [] W (by omega) (by simp));rw[bE] at HC;have hpos:0<bG x.openV (val []):=by
    have h0:=(bY6 hd).2.2.1;have h1:val []=0:=by rw[<-nA,bE]
    rw[h1,cmpI_gtW];exact h0
   have HRP:=Hd (fun W (hb:Below w.heap.size w W) (hl:Jj W la t.lots)=>dIo t.lots x la lc d wash W (HE.out.below hb) (by have:=E.out.keep.ok.lots.len;omega) hl E.out.smallL wx);rw[hr0,hr1] at HRP;have HRP2:=Hd (fun W hb hl=>(HRP.out W hb hl).mono (fun e W' (h:(∃v,e=.returned (.tuple #[v,.int .i64 0])/\W'.ownsRow W.heap.size 3 1 v ([]:List Int).length (([]:List Int).map (Value.int .i64))/\(([]:List Int)=[]->v=.slice none 0 0))/\Below W.heap.size W W')=>show e=.returned (.tuple #[.slice none 0 0,.int .i64 0])/\Below W.heap.size W W' from by
    obtain⟨⟨v,rfl,_,hv⟩,hb⟩:=h;rw[hv rfl];exact⟨rfl,hb⟩))
   clear HRP;have HXC:Hid (∀j u,x.cs[j]?=some u->wr.cell? ⟨b1,o1+i*10+j,none⟩=some u):=fun j u hu=>by
    exact dJy HGT.out hx j u hu
   have HXL:Hid (b1<wr.heap.size):=dG6 k0;generalize aJ x.openV=ov at *;generalize bG x.openV (val [])=cv at *;have hpos':¬ cv<=0:=by omega
   simp only[aLe.v,aLe.cs] at HO;clear gx wx hr0 hr1 hov hx hz hd hol;have r1:=KR.out.cell 1;go_wp2_with fail;refine(HO.out _ (HE.out.below HB.out)).mono ?_;rintro e w5 ⟨rfl,hb⟩;have HB5:=Hd (aA HB.out hb);have HXC5:Hid (∀j u,x.cs[j]?=some u->w5.cell? ⟨b1,o1+i*10+j,none⟩=some u):=fun j u hu=>(hb.cell (p:=⟨b1,o1+i*10+j,none⟩) HXL.out).trans (HXC.out j u hu)
   have HXL5:Hid (b1<w5.heap.size):=Nat.lt_of_lt_of_le HXL.out hb.size;have KR5:=Hd (KR.out.below hb);have HLT5:=Hd (HLT.out.below hb);have HGT5:=Hd (HGT.out.below hb);have HIN5:=Hd (HIN.out.below hb);clear k0 k1 k2 k3 k4 k5 k6 k7 k8 k9 cz r1 hb HO HB HXC HXL KR HLT HGT HIN;go_upto_region 15 with fail
   refine dJ4 (C:=⟨w5.drewN 1,rb,la,t.lots.length,lc,b1,o1,t.gains.length,gc,.slice sa t.steps.length sc,.slice ea en ec,i,x,d,wash⟩) ?M1 rfl rfl rfl ?_
   case M1 =>
    have hd:=aD (Br w5.heap.size w5) 1;exact⟨rfl,rfl,rfl,rfl,rfl,KR5.out.below hd,HXL5.out,HXC5.out,hix,hgn,fun W hW=>HRP2.out W (aA HB5.out (aA hd hW)) (HLT5.out.below (aA hd hW))⟩
   intro V hV;have hV:=aA (aD (Br w5.heap.size w5) 1) hV;have HB6:=Hd (aA HB5.out hV);have KR6:=Hd (KR5.out.below hV);have HLT6:=Hd (HLT5.out.below hV);have HGT6:=Hd (HGT5.out.below hV);have HIN6:=Hd (HIN5.out.below hV);clear hV HB5 KR5 HLT5 HGT5 HIN5 HXC5 HXL5 HRP2;simp only[iZ,dKc,List.foldl,List.setIfInBounds_toArray,List.set_cons_zero,List.set_cons_succ,dJ8.val];go_wp2_with fail;refine(HC.out _).mono ?_;rintro e w7 ⟨rfl,hb⟩;have HB7:=Hd (aA HB6.out hb);have KR7:=Hd (KR6.out.below hb);have HLT7:=Hd (HLT6.out.below hb);have HGT7:=Hd (HGT6.out.below hb);have HIN7:=Hd (HIN6.out.below hb);clear hb HB6 KR6 HLT6 HGT6 HIN6 HC;go_wp2;go_round
   case rel=>exact⟨HB7,KR7,HLT7,HGT7,HIN7,k+1,by omega,by go_num⟩
   case measure=>simp[intOf];omega
  ·obtain rfl:k=ix.length:=by omega
   have HAG:=Hd (HAG.out _ HB.out HLT.out HGT.out);have r0:=KR.out.cell 0;have r1:=KR.out.cell 1;clear HMEM HIL HIN hil hk hlt;go_wp2_with fail;refine HAG.out.mono ?_;rintro e w5 ⟨⟨la2,lc2,ga2,gc2,sa2,sc2,ec2,rfl,hl2,hg2⟩,hb⟩;have hba:=aB w5 (.cells #[.slice la2 t.lots.length lc2,.slice ga2 t.gains.length gc2,.slice sa2 0 sc2,.slice none 0 ec2] 30);have HB5:=Hd (aA (aA HB.out hb) hba);have KR5:=Hd ((KR.out.below hb).below hba);have HLT5:=Hd ((HLT.out.below hb).below hba);have HGT5:=Hd ((HGT.out.below hb).below hba);have HL5:=Hd (hl2.below hba);have HG5:=Hd (hg2.below hba);have KS:=Hd (aP.new0 w5 #[.slice la2 t.lots.length lc2,.slice ga2 t.gains.length gc2,.slice sa2 0 sc2,.slice none 0 ec2] 30);obtain⟨rs,hrs⟩:∃rs,rs=w5.heap.size:=⟨_,rfl⟩
   rw[<-hrs] at KS;have r0':=KR5.out.cell 0;have s0:=KS.out.cell 0;clear r0 r1 hb hba hl2 hg2 HAG HB KR HLT HGT;go_wp2_with fail;rw[<-hrs];clear hrs;generalize w5.alloc _=w6 at *;refine(HS1.out _ _ _ _ _ HL5.out HLT5.out).mono ?_;rintro e w7 ⟨rfl,hb⟩;have HB7:=Hd (aA HB5.out hb);have KR7:=Hd (KR5.out.below hb);have KS7:=Hd (KS.out.below hb);have HLT7:=Hd (HLT5.out.below hb);have HGT7:=Hd (HGT5.out.below hb);have HG7:=Hd (HG5.out.below hb);clear hb r0' s0 HB5 KR5 KS HLT5 HGT5 HG5 HL5;have r1:=KR7.out.cell 1;have s1:=KS7.out.cell 1;go_wp2_with fail;refine(HS2.out _ _ _ _ _ HG7.out HGT7.out).mono ?_;rintro e w8 ⟨rfl,hb⟩;have HB8:=Hd (aA HB7.out hb);have KR8:=Hd (KR7.out.below hb);have KS8:=Hd (KS7.out.below hb);have HLT8:=Hd (HLT7.out.below hb);have HGT8:=Hd (HGT7.out.below hb);clear hb r1 s1 HB7 KR7 KS7 HLT7 HGT7 HG7;have s2:=KS8.out.cell 2;have s3:=KS8.out.cell 3;have r0:=KR8.out.cell 0
   by_cases hw0:wash=0
   ·have H3:=Hd (HS3.out hw0 _ HLT8.out (HW.out.1.below HB8.out));have H4:=Hd (HS4.out hw0);clear HS3 HS4;subst hw0;go_wp2_with fail;refine H3.out.mono ?_;rintro e w9 ⟨rfl,hb⟩;have HB9:=Hd (aA HB8.out hb);have HGT9:=Hd (HGT8.out.below hb);have r1:=(KR8.out.below hb).cell 1;clear hb s2 s3 r0 H3 HB8 KR8 KS8 HLT8 HGT8;go_wp2_with fail;refine(H4.out _ HGT9.out (HW.out.2.below HB9.out)).mono ?_;rintro e w10 ⟨rfl,hb⟩;have HB10:=Hd (aA HB9.out hb);clear hb r1 H4 HB9 HGT9;go_wp2_with fail;refine(HA.out _ HB10.out).mono ?_;rintro e w11 ⟨rfl,hb⟩;go_wp2;go_ret;exact⟨rfl,aA HB10.out hb⟩
   ·have hw0':(wash==0)=false:=by simpa using hw0
    clear HS3 HS4;go_wp2_with fail;refine(HA.out _ HB8.out).mono ?_;rintro e w11 ⟨rfl,hb⟩;go_wp2;go_ret;exact⟨rfl,aA HB8.out hb⟩
end
end Go.Proofs.YtiloklnjjfaagaaGreatDoor
