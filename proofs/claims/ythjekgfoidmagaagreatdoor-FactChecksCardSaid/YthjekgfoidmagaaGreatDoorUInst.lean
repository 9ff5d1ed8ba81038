/- DelS13 Inst13 ExReg13 Exw13 SameE13 Awake13P Awake13 -/
import Derived.Test.YthjekgfoidmagaaGreatDoorUKeysA
import Derived.Test.YthjekgfoidmagaaGreatDoorUReadX
set_option maxHeartbeats 16000000
set_option maxRecDepth 100000
namespace Go.Proofs.YthjekgfoidmagaaGreatDoor
open Go.Proofs.Tryz
section
open Go Go.RowKit Num
def bHz(s:List UInt8):Value:=.string ⟨s.toArray⟩
theorem bIr(s:List UInt8)(w:World):Calls prog 49 #[.string ⟨s.toArray⟩] w fun e w'=>e=.returned (.bool s.isEmpty)/\w'=w:=by
 go_enter func49,ntmps49;go_wp2;go_ret;cases s <;> simp
def bD5:List (List UInt8)->Nat
 | []=>0
 |x::r=>if x=[] then 0 else bD5 r+1
theorem bJ9:∀l:List (List UInt8),bD5 l<=l.length
 | []=>Nl _
 |x::r=>by
  have:=bJ9 r;unfold bD5;split <;> simp <;> omega
theorem bGu:∀ {l:List (List UInt8)}{i:Nat}{x:List UInt8},l[i]?=some x->(i<bD5 l->x ≠ [])/\(i=bD5 l->x=[])
 | [],i,x,h=>by simp at h
 |y::r,0,x,h=>by
  simp at h;subst h;unfold bD5
  by_cases e:y=[]
  ·rw[if_pos e];exact⟨fun h=>absurd h (by omega),fun _=>e⟩
  ·rw[if_neg e];exact⟨fun _=>e,fun h=>absurd h (by omega)⟩
 |y::r,i+1,x,h=>by
  have ih:=bGu (l:=r) (i:=i) (x:=x) (by simpa using h);unfold bD5
  by_cases e:y=[]
  ·rw[if_pos e];exact⟨fun h=>absurd h (by omega),fun h=>absurd h (by omega)⟩
  ·rw[if_neg e];exact⟨fun h=>ih.1 (by omega),fun h=>ih.2 (by omega)⟩
theorem bMd(ss:List (List UInt8))(a:Option Addr)(c:Nat)(w:World)(hn:ss.length<=1000000)(hz:ss=[]∨∃b off,a=some ⟨b,off,none⟩/\∀k z,ss[k]?=some z->w.cell? ⟨b,off+k,none⟩=some (.string ⟨z.toArray⟩)):
  Calls prog 108 #[.slice a ss.length c,.func (.func 49) #[] #[]] w fun e w'=>e=.returned (.int .i64 (bBf (bD5 ss) ss.length))/\w'=w:=by
 have HZ:=Hd hz;have HF:Hid (∀(x:List UInt8) (W:World),Calls prog 49 #[.string ⟨x.toArray⟩] W fun e w'=>e=.returned (.bool x.isEmpty)/\w'=W):=bIr;have HA:Hid (∀i x,ss[i]?=some x->(i<bD5 ss->x ≠ [])/\(i=bD5 ss->x=[])):=fun i x h=>bGu h
 have HLE:=Hd (bJ9 ss);clear hz;generalize bD5 ss=p at *;go_enter func108,ntmps108;go_wp2_with fail;go_loopw [8] (fun iv wr=>∃k:Nat,k<=p/\iv=.int .i64 k/\Hid (wr=w)) (fun iv _=>ss.length-(intOf iv).toNat)
 case atStart=>exact⟨0,Nat.zero_le _,rfl,rfl⟩
 case round =>
  obtain⟨k,hk,rfl,HB⟩:=hrel;have hp:=HLE.out
  by_cases hlt:k<ss.length
  ·obtain⟨x,hx⟩:∃x,ss[k]?=some x:=⟨_,Lg hlt⟩
   have HX:=Hd (HA.out k x hx);obtain⟨b,off,rfl,cc⟩:∃b off,a=some ⟨b,off,none⟩/\∀k z,ss[k]?=some z->w.cell? ⟨b,off+k,none⟩=some (.string ⟨z.toArray⟩):=HZ.out.resolve_left (fun h=>by rw[h] at hx;simp at hx)
   have c1:wr.cell? ⟨b,off+k,none⟩=some (.string ⟨x.toArray⟩):=by rw[HB.out];exact cc k x hx
   clear cc hx;go_wp2_with fail;refine(HF.out x _).mono ?_;rintro e w1 ⟨rfl,hw1⟩;have HB1:Hid (w1=w):=hw1.trans HB.out;clear hw1
   by_cases hkp:k<p
   ·have he:x.isEmpty=false:=by
     cases x with
     |nil=>exact absurd rfl (HX.out.1 hkp)
     |cons _ _=>rfl
    rw[he];go_wp2;go_roundw
    case rel=>exact⟨k+1,by omega,by go_num,HB1⟩
    case measure=>simp[intOf];omega
   ·obtain rfl:k=p:=by omega
    have he:x.isEmpty=true:=by rw[HX.out.2 rfl];rfl
    rw[he];have HV:Hid (bBf k ss.length=(k:Int)):=by show _=_;unfold bBf;rw[if_pos hlt]
    go_wp2;go_ret;exact⟨by rw[HV.out];rfl,HB1.out⟩
  ·obtain rfl:k=p:=by omega
   have HV:Hid (bBf k ss.length = -1):=by show _=_;unfold bBf;rw[if_neg hlt]
   go_wp2;go_ret;exact⟨by rw[HV.out];rfl,HB.out⟩
theorem bKk{w:World}{g cap base i:Nat}{t:TypeId}{f:Nat->Value}{xs:List Value}(h:w.rowIs g t cap f)(hb:base<=g)(hi:i<=cap)(hc:cap<=maxLen)(hl:xs.length=i)(hx:∀j z,xs[j]?=some z->f j=z):w.ownsRow base t 1 (.slice (some ⟨g,0,none⟩) i cap) i xs:=by
 obtain⟨c,h1,h2,h3⟩:=h;refine⟨by omega,.inr ⟨g,cap,c,rfl,hb,h1,hi,hc,by omega,?_⟩⟩;rw[Nat.mul_one];apply List.ext_getElem?;intro j;rw[List.getElem?_take]
 by_cases hj:j<i
 ·rw[if_pos hj,Array.getElem?_toList,h3 j (by omega)];have hz:xs[j]?=some xs[j]:=Lg (by omega);rw[hz,hx j _ hz]
 ·rw[if_neg hj,List.getElem?_eq_none (by omega)]
theorem bHs{A W:World}{g i:Nat}{v:Value}(h:A.grownBy W (some g)):A.grownBy (W.setCell ⟨g,i,none⟩ v) (some g) :=
 ⟨h.os,h.tape,h.output,by simpa[World.setCell] using h.size,fun j hj hne=>(Below.heap_setCell W _ _ j (fun e=>hne (by rw[e]))).trans (h.block j hj hne)⟩
theorem bG1{A:World}{g:Nat}:∀(vs:List Value) (o:Nat) {W:World},A.grownBy W (some g)->A.grownBy (W.setCells g o vs) (some g)
 | [],_,_,h=>h
 |_::r,o,_,h=>bG1 r (o+1) (bHs h)
def bDw(l:List (List UInt8)):List (List UInt8):=l.filter fun s=>!s.isEmpty
theorem bNq:∀ {l:List (List UInt8)},(∀x,x∈l->x ≠ [])->bDw l=l:=fun h=>List.filter_eq_self.2 fun x hx=>by
 cases x with
 |nil=>exact absurd rfl (h _ hx)
 |cons _ _=>rfl
theorem bJh(l:List (List UInt8))(x:List UInt8):bDw (l ++ [x])=bDw l++if x=[] then[] else[x]:=by
 unfold bDw;rw[List.filter_append];cases x <;> rfl
theorem bH4(l:List (List UInt8)):(bDw l).length<=l.length:=List.length_filter_le _ _
theorem bIm(l:List (List UInt8)):bDw (l.take (bD5 l))=l.take (bD5 l):=bNq fun x hx=>by
 obtain⟨i,hi⟩:=List.mem_iff_getElem?.1 hx;rw[List.getElem?_take] at hi;split at hi
 ·rename_i h;exact(bGu hi).1 h
 ·cases hi
theorem bGj(ss:List (List UInt8))(v:Value)(base:Nat)(w:World)(hn:ss.length<=1000000)(ho:w.ownsRow base 9 1 v ss.length (iS ss)):
  Calls prog 48 #[v,.func (.func 49) #[] #[]] w fun e w'=>∃v',e=.returned v'/\w'.ownsRow base 9 1 v' (bDw ss).length (iS (bDw ss))/\w.grownBy w' v.ownBlock:=by
 have HO:=Hd ho;obtain⟨a,c,rfl,hz⟩:∃a c,v=.slice a ss.length c/\(ss=[]∨∃b off,a=some ⟨b,off,none⟩/\∀k z,ss[k]?=some z->w.cell? ⟨b,off+k,none⟩=some (.string ⟨z.toArray⟩)):=by
  rcases ho.2 with⟨rfl,h0⟩|⟨g,cap,cur,rfl,_,hg,_,_,_,ht⟩
  ·exact⟨none,0,by rw[h0],.inl (List.length_eq_zero_iff.1 h0)⟩
  ·refine⟨_,cap,rfl,.inr ⟨g,0,rfl,fun k z hz=>?_⟩⟩;have h1:(iS ss)[k]?=some (.string ⟨z.toArray⟩):=by unfold iS;rw[List.getElem?_map,hz];rfl
   rw[<-ht,List.getElem?_take] at h1;split at h1
   ·rw[Array.getElem?_toList] at h1;rw[Nat.zero_add];simp[World.cell?,hg,h1]
   ·cases h1
 have HI:=Hd (bMd ss a c w hn hz);have HF:Hid (∀(x:List UInt8) (W:World),Calls prog 49 #[.string ⟨x.toArray⟩] W fun e w'=>e=.returned (.bool x.isEmpty)/\w'=W):=bIr
 by_cases hp:bD5 ss<ss.length
 ·rw[bDc hp] at HI;obtain⟨x0,hx0⟩:∃x,ss[bD5 ss]?=some x:=⟨_,Lg hp⟩
  have he0:x0=[]:=(bGu hx0).2 rfl;have HP0:Hid (bDw (ss.take (bD5 ss+1))=ss.take (bD5 ss)):=by
   show _=_;rw[List.take_add_one,hx0];show bDw (_ ++ [x0])=_;rw[bJh,if_pos he0,List.append_nil,bIm]
  rcases ho.2 with⟨e,h0⟩|⟨g,cap,cur,e,hbg,hg,hcap,hmax,hsz,ht⟩
  ·omega
  injection e with e1 e2 e3
  subst e1 e3;have HROW:Hid (w.rowIs g 9 c (fun j=>cur[j]?.getD undef)):=⟨cur,hg,by omega,fun i hi=>by dsimp only;rw[Array.getElem?_eq_getElem (by omega)];rfl⟩
  have HCUR:Hid (∀(j:Nat) (z:List UInt8),ss[j]?=some z->cur[j]?.getD undef=bHz z):=fun j z hz=>by
   have h1:(iS ss)[j]?=some (bHz z):=by unfold iS bHz;rw[List.getElem?_map,hz];rfl
   rw[<-ht,List.getElem?_take] at h1;have h2:cur.toList[j]?=some (bHz z):=by
    split at h1
    ·exact h1
    ·cases h1
   have h3:cur[j]?=some (bHz z):=by rw[<-Array.getElem?_toList];exact h2
   rw[h3];rfl
  have HB:Hid (base<=g/\c<=maxLen):=⟨hbg,hmax⟩
  have hpl:(ss.take (bD5 ss)).length=bD5 ss:=by rw[List.length_take];omega
  have HPL:=Hd hpl;have hp1:((bD5 ss:Int) == -1)=false:=by simp
  clear hz ho hg hsz ht hx0 he0 hbg e2 hmax hpl;generalize bD5 ss=p at *;go_enter func48,ntmps48;go_wp2_with fail;refine HI.out.mono ?_;rintro e w1 ⟨rfl,rfl⟩;clear HI;go_wp2_with fail;go_loopw [5,6] (fun iv jv wr=>∃(k i:Nat) (f:Nat->Value),k<=ss.length/\i<k/\jv=.int .i64 (k:Int)/\iv=.int .i64 (i:Int)/\Hid ((bDw (ss.take k)).length=i)/\Hid (wr.rowIs g 9 c f)/\Hid (∀j z,(bDw (ss.take k))[j]?=some z->f j=bHz z)/\Hid (∀j z,k<=j->ss[j]?=some z->f j=bHz z)/\Hid (w1.grownBy wr (some g))) (fun _ jv _=>ss.length-(intOf jv).toNat)
  case atStart =>
   have HA1:Hid ((bDw (ss.take (p+1))).length=p):=by show _=_;rw[HP0.out,HPL.out]
   have HA2:Hid (∀j z,(bDw (ss.take (p+1)))[j]?=some z->cur[j]?.getD undef=bHz z):=fun j z h=>by
    rw[HP0.out,List.getElem?_take] at h;split at h
    ·exact HCUR.out j z h
    ·cases h
   have HA3:Hid (∀j z,p+1<=j->ss[j]?=some z->cur[j]?.getD undef=bHz z):=fun j z _ h=>HCUR.out j z h
   have HA4:Hid (w1.grownBy w1 (some g)):=⟨rfl,rfl,rfl,Nl _,fun _ _ _=>rfl⟩
   exact⟨p+1,p,fun j=>cur[j]?.getD undef,by omega,by omega,by go_num,rfl,HA1,HROW,HA2,HA3,HA4⟩
  case round =>
   clear HROW HCUR HP0 HPL hp1;obtain⟨k,i,f,hk,hik,rfl,rfl,HKL,HR,HLO,HHI,HG⟩:=hrel
   by_cases hlt:k<ss.length
   ·obtain⟨x,hx⟩:∃x,ss[k]?=some x:=⟨_,Lg hlt⟩
    have hfk:=HHI.out k x (Nl _) hx;have c1:wr.cell? ⟨g,k,none⟩=some (.string ⟨x.toArray⟩):=by rw[HR.out.cell (by omega),hfk];rfl
    have c2:=HR.out.cell (i:=i) (by omega);have f2:=HR.out.frozen i;have HTK:Hid (bDw (ss.take (k+1))=bDw (ss.take k)++if x=[] then[] else[x]):=by show _=_;rw[List.take_add_one,hx];exact bJh _ _
    have HH2:Hid (∀j z,k+1<=j->ss[j]?=some z->f j=bHz z):=fun j z hj h=>HHI.out j z (by omega) h
    have HR2:Hid ((wr.setCell ⟨g,i,none⟩ (.string ⟨x.toArray⟩)).rowIs g 9 c (fun j=>if j=i then .string ⟨x.toArray⟩ else f j)):=HR.out.set i _;have HG2:Hid (w1.grownBy (wr.setCell ⟨g,i,none⟩ (.string ⟨x.toArray⟩)) (some g)):=by
     exact bHs HG.out
    clear hfk hx;generalize f i=old at c2;go_wp2_with fail;refine(HF.out x _).mono ?_;rintro e w2 ⟨rfl,rfl⟩
    by_cases he:x=[]
    ·have hee:x.isEmpty=true:=by rw[he];rfl
     rw[if_pos he,List.append_nil] at HTK;have HT1:Hid ((bDw (ss.take (k+1))).length=i):=by show _=_;rw[HTK.out,HKL.out]
     have HT2:Hid (∀j z,(bDw (ss.take (k+1)))[j]?=some z->f j=bHz z):=fun j z h=>HLO.out j z (by rw[<-HTK.out];exact h)
     rw[hee];clear HTK HKL HLO HHI c1 c2 f2 he hee HR2 HG2;go_wp2;go_roundw
     case rel=>exact⟨k+1,i,f,by omega,by omega,by go_num,rfl,HT1,HR,HT2,HH2,HG⟩
     case measure=>simp[intOf];omega
    ·have hee:x.isEmpty=false:=by
      cases x with
      |nil=>exact absurd rfl he
      |cons _ _=>rfl
     rw[if_neg he] at HTK;have HT1:Hid ((bDw (ss.take (k+1))).length=i+1):=by show _=_;rw[HTK.out,List.length_append,HKL.out];rfl
     have HT2:Hid (∀j z,(bDw (ss.take (k+1)))[j]?=some z->(if j=i then Value.string ⟨x.toArray⟩ else f j)=bHz z):=fun j z h=>by
      rw[HTK.out] at h;have hl:=HKL.out
      by_cases hj:j=i
      ·rw[if_pos hj];rw[hj,List.getElem?_append_right (by omega),hl,Nat.sub_self] at h;injection h with h
       rw[<-h];rfl
      ·rw[if_neg hj];have hjl:j<(bDw (ss.take k)).length:=by
        have:=(Li.1 h).1;rw[List.length_append,List.length_singleton] at this;omega
       rw[List.getElem?_append_left hjl] at h;exact HLO.out j z h
     have HT3:Hid (∀j z,k+1<=j->ss[j]?=some z->(if j=i then Value.string ⟨x.toArray⟩ else f j)=bHz z):=fun j z hj h=>by rw[if_neg (by omega)];exact HH2.out j z hj h
     rw[hee];clear HTK HKL HLO HHI c1 he hee HR HG HH2;go_wp2;go_roundw
     case rel=>exact⟨k+1,i+1,_,by omega,by omega,by go_num,by go_num,HT1,HR2,HT2,HT3,HG2⟩
     case measure=>simp[intOf];omega
   ·obtain rfl:k=ss.length:=by omega
    have hkt:ss.take ss.length=ss:=List.take_length;rw[hkt] at HKL HLO;have hnc:ss.length<=c:=hcap;have hcl:∀ty,(Builtin.clear_ #[36] ty #[.slice (some ⟨g,i,none⟩) (ss.length-i) (c-i)]).run prog wr=.ok (.tuple #[]) (wr.setCells g i (List.replicate (ss.length-i) (.string ⟨#[]⟩))) :=
     fun ty=>Lib.run_clear_slice wr 36 9 ty (.string ⟨#[]⟩) underlying36 (fun _=>by kernel_rfl) rfl rfl g i _ _ (by omega)
      (fun j hj=>by rw[HR.out.cell (i:=i+j) (by omega)];rfl)
      (fun j hj=>HR.out.frozen (i+j))
    have HE:Hid ((wr.setCells g i (List.replicate (ss.length-i) (.string ⟨#[]⟩))).ownsRow base 9 1 (.slice (some ⟨g,0,none⟩) i c) i (iS (bDw ss))/\w1.grownBy (wr.setCells g i (List.replicate (ss.length-i) (.string ⟨#[]⟩))) (some g)):=by
     refine⟨bKk (rowIs_setCells (List.replicate (ss.length-i) (.string ⟨#[]⟩)) i wr f HR.out) HB.out.1 (by omega) HB.out.2 (by unfold iS;rw[List.length_map];exact HKL.out) (fun j z hz=>?_),?_⟩
     ·have hjl:j<i:=by
       have:=(Li.1 hz).1;unfold iS at this;rw[List.length_map,HKL.out] at this;exact this
      rw[if_neg (by omega)];unfold iS at hz;rw[List.getElem?_map] at hz;cases hk2:(bDw ss)[j]? with
      |none=>rw[hk2] at hz;cases hz
      |some y =>
       rw[hk2] at hz;rw[HLO.out j y hk2];injection hz
     ·exact bG1 _ i HG.out
    have hic:i<=c:=by omega
    have hci:¬ c=i:=by omega
    have HKL2:=Hd HKL.out;clear hkt HLO HHI HR HG HKL HB;go_wp2;go_ret;rw[HKL2.out];exact⟨_,rfl,HE.out⟩
 ·rw[show bBf (bD5 ss) ss.length = -1 from if_neg hp] at HI;have hk:bDw ss=ss:=by
   have h:=bIm ss;rw[List.take_of_length_le (by omega)] at h;exact h
  have HK:=Hd hk;clear hz ho hk;go_enter func48,ntmps48;go_wp2_with fail;refine HI.out.mono ?_;rintro e w1 ⟨rfl,rfl⟩;clear HI;go_wp2;go_ret;rw[HK.out];exact⟨_,rfl,HO.out,⟨rfl,rfl,rfl,Nl _,fun _ _ _=>rfl⟩⟩
end
section
open Go Go.RowKit Num
theorem bF8{W w5 w0:World}{base n:Nat}{v:Value}{xs:List Value}{tmp:Obj}(hrow:W.ownsRow base 9 1 v n xs)(hB:Below base w0 W)(hb:base<=W.heap.size)(hgr:(W.alloc tmp).grownBy w5 v.ownBlock):Below base w0 w5/\∀b cs T,T≠9->aP W b cs T->aP w5 b cs T:=by
 refine⟨((hB.trans ((aB W tmp).mono hb))).grown hgr (by rw[World.size_alloc];omega) (fun k hk=>(hrow.lt k hk).1),fun b cs T hT hbx=>?_⟩;have hne:=bC0 hbx hT hrow;have hb1:=hbx.below (aB W tmp);exact⟨Nat.lt_of_lt_of_le hb1.1 hgr.size,(hgr.block b hb1.1 (fun e=>hne e.symm)).trans hb1.2⟩
def bEd(l0:List (List UInt8))(os:List eJ)(j:Nat):List (List UInt8):=l0++(os.take j).map (·.other)
theorem bOo(f:aE)(pa oa:Option Addr)(pc oc:Nat)(w:World)(hb:f.Behind w pa oa)(hol:f.options.length<=1000):
  Calls prog 17 #[.agg (f.cells pa pc oa oc)] w fun e w'=>∃v,e=.returned v/\w'.ownsRow w.heap.size 9 1 v (bPk f).length (iS (bPk f))/\Below w.heap.size w w':=by
 obtain⟨i0,hi,hz0,hz1,hz2⟩:=info_parts bCu;have HINF:=Hd (And.intro hi (And.intro hz0 (And.intro hz1 hz2)));have HBO:=Hd hb.2;have HFA:Hid (aP (w.alloc (.cells (f.cells pa pc oa oc) 29)) w.heap.size (f.cells pa pc oa oc) 29):=aP.new0 _ _ _;have HFB:Hid (aP ((w.alloc (.cells (f.cells pa pc oa oc) 29)).alloc (.cells #[.string ⟨f.ins.toArray⟩] 9)) w.heap.size (f.cells pa pc oa oc) 29):=HFA.out.below (aB _ _);have HBA:Hid (Below w.heap.size w ((w.alloc (.cells (f.cells pa pc oa oc) 29)).alloc (.cells #[.string ⟨f.ins.toArray⟩] 9))):=aA (aB _ _) (aB _ _);have HOA:Hid (((w.alloc (.cells (f.cells pa pc oa oc) 29)).alloc (.cells #[.string ⟨f.ins.toArray⟩] 9)).ownsRow w.heap.size 9 1 (.slice (some ⟨w.heap.size+1,0,none⟩) 1 1) 1 (iS [f.ins])):=by
  have h:=World.ownsRow_lit (base:=w.heap.size) (e:=9) (size:=1) (w.alloc (.cells (f.cells pa pc oa oc) 29)) #[.string ⟨f.ins.toArray⟩] 1 (by rw[World.size_alloc];omega) (by unfold maxLen;omega) rfl;rw[World.size_alloc] at h;exact h
 have c5:=(HFA.out.cell 5).trans (show (f.cells pa pc oa oc)[5]?=some (.string ⟨f.ins.toArray⟩) from rfl);have c4:=(HFB.out.cell 4).trans (show (f.cells pa pc oa oc)[4]?=some (.int .i64 f.kind) from rfl);have c6:=(HFB.out.cell 6).trans (show (f.cells pa pc oa oc)[6]?=some (.string ⟨f.other.toArray⟩) from rfl);have c19b:=(HFB.out.cell 19).trans (show (f.cells pa pc oa oc)[19]?=some (.slice oa f.options.length oc) from rfl);have HX:Hid ((f.cells pa pc oa oc)[18+1]?=some (.slice oa f.options.length oc)):=rfl;have HRAW:Hid (bPk f=Go.Lib.compact ((bDw (bDp f)).mergeSort fun x y=>decide (x<=y))):=rfl;have HRW:Hid (bDp f=[f.ins]++(if f.kind=9∨f.kind=12 then[f.other] else[])++f.options.map (·.other)):=rfl;generalize f.cells pa pc oa oc=cs at *;clear hb hi hz0 hz1 hz2;obtain⟨ks,hks⟩:∃ks,ks=f.kind:=⟨_,rfl⟩
 rw[<-hks] at c4 HRW;clear hks;go_enter func17,ntmps17;have HCN:Hid (∀(j:Nat) (u:Value),[Value.string ⟨f.other.toArray⟩][j]?=some u->(((w.alloc (.cells cs 29)).alloc (.cells #[.string ⟨f.ins.toArray⟩] 9)).alloc (.cells #[.string ⟨f.other.toArray⟩] 9)).cell? ((⟨w.heap.size+1+1,0,none⟩:Addr).add j)=some u):=fun j u hj=>by
  have h:=aUb ((w.alloc (.cells cs 29)).alloc (.cells #[.string ⟨f.ins.toArray⟩] 9)) #[.string ⟨f.other.toArray⟩] 9 j u hj;rw[World.size_alloc,World.size_alloc] at h;exact h
 have HSW:Hid (w.heap.size<=((w.alloc (.cells cs 29)).alloc (.cells #[.string ⟨f.ins.toArray⟩] 9)).heap.size):=by show _<=_;rw[World.size_alloc,World.size_alloc];omega
 go_wp2_with (at_builtin;refine wpList_append_own_at _ rfl _ _ 36 rfl w.heap.size 9 i0 (.string ⟨#[]⟩) 1 16 underlying36 HINF.out.1 HINF.out.2.1 HINF.out.2.2.1 HINF.out.2.2.2 rfl (by decide) _ _ _ rfl (HOA.out.alloc _) ⟨w.heap.size+1+1,0,none⟩ 1 1 [.string ⟨f.other.toArray⟩] rfl rfl HCN.out (by simp[Value.oneCell']) (by unfold maxLen;omega) (by omega) (by rw[World.size_alloc];exact Nat.le_succ_of_le HSW.out) ?_;intro v' w5 hown' hgrow hx1 hx2;obtain⟨hb5,hk5⟩:=bF8 HOA.out HBA.out HSW.out hgrow;have c19:=((hk5 _ _ _ (by decide) HFB.out).cell 19).trans HX.out;have HO5:=Hd hown';have HB5:=Hd hb5;clear hown' hgrow hb5 hk5 hx1 hx2)
 ·have hkk:ks=9∨ks=12:=.inl (by assumption);obtain⟨l0,n0,hn2,hn0,HOL,HRW3⟩:∃(l0:List (List UInt8)) (n0:Nat),n0<=2/\l0.length=n0/\Hid (w5.ownsRow w.heap.size 9 1 v' n0 (iS l0))/\Hid (bDp f=l0++f.options.map (·.other)):=⟨[f.ins,f.other],2,Nl _,rfl,HO5.out,by show _=_;rw[HRW.out,if_pos hkk];rfl⟩
  have HBL:=Hd HB5.out;clear HO5 HB5 c19 hkk;clear HRW c5 c4 c6 HFA HFB HX HCN HSW HOA;go_loopw [3,25] (fun ov iv wr=>∃j:Nat,j<=f.options.length/\iv=.int .i64 (j:Int)/\Hid (wr.ownsRow w.heap.size 9 1 ov (n0+j) (iS (bEd l0 f.options j)))/\Hid (Below w.heap.size w wr)) (fun _ iv _=>f.options.length-(intOf iv).toNat)
  case atStart=>exact⟨0,Nat.zero_le _,rfl,by show World.ownsRow _ _ _ _ _ _ _;rw[show bEd l0 f.options 0=l0 by simp[bEd]];exact HOL.out,HBL⟩
  case round =>
   clear HOL HBL;obtain⟨j,hj,rfl,HO,HB⟩:=hrel
   by_cases hlt:j<f.options.length
   ·obtain⟨o,ho⟩:∃o,f.options[j]?=some o:=⟨_,Lg hlt⟩
    obtain⟨b,off,rfl,hbl,hc⟩:=HBO.out.addr (k:=j) (cs:=o.cells) (by rw[List.getElem?_map,ho];rfl);have HC:Hid (∀i v,o.cells.toArray.toList[i]?=some v->wr.cell? ⟨b,off+j*7+i,none⟩=some v):=fun i v hv=>(HB.out.cell (p:=⟨b,off+j*7+i,none⟩) hbl).trans (hc i v hv)
    have HSO:Hid ((prog.info? 55).map (·.size)=some o.cells.toArray.size):=by
     have h:(prog.info? 55).map (·.size)=some 7:=by kernel_rfl
     exact h
    have HO7:Hid ((#[.string ⟨#[]⟩,.string ⟨#[]⟩,.string ⟨#[]⟩,.string ⟨#[]⟩,.string ⟨#[]⟩,.string ⟨#[]⟩,.string ⟨#[]⟩]:Array Value).size=o.cells.toArray.size):=rfl;have HONE:Hid (o.cells.toArray.all (·.oneCell')=true):=by show _=_;unfold eJ.cells;simp[Value.oneCell']
    have HZO:Hid (aP (wr.alloc (.cells #[.string ⟨#[]⟩,.string ⟨#[]⟩,.string ⟨#[]⟩,.string ⟨#[]⟩,.string ⟨#[]⟩,.string ⟨#[]⟩,.string ⟨#[]⟩] 55)) wr.heap.size #[.string ⟨#[]⟩,.string ⟨#[]⟩,.string ⟨#[]⟩,.string ⟨#[]⟩,.string ⟨#[]⟩,.string ⟨#[]⟩,.string ⟨#[]⟩] 55):=aP.new0 _ _ _;have HST:Hid (o.cells.toArray[0]?=some (.string ⟨o.other.toArray⟩)):=rfl;have HNX:Hid (bEd l0 f.options (j+1)=bEd l0 f.options j ++ [o.other]):=by show _=_;unfold bEd;rw[List.take_add_one,ho];simp
    clear hc ho;generalize o.cells.toArray=oc7 at *;generalize o.other=ot at *;go_wp2_with (first|(refine aM rfl 55 _ rfl b (off+j*7) rfl oc7 _ HC.out underlying55 rfl HSO.out ?_)|(refine bC5 rfl 55 _ _ rfl wr.heap.size oc7 rfl rfl HZO.out HSO.out HO7.out HONE.out ?_;intro w4 kx bx gr;have c1:=(kx.cell 0).trans HST.out;have HB4:=Hd (aA HB.out ((aB wr (.cells #[.string ⟨#[]⟩,.string ⟨#[]⟩,.string ⟨#[]⟩,.string ⟨#[]⟩,.string ⟨#[]⟩,.string ⟨#[]⟩,.string ⟨#[]⟩] 55)).trans (bx _ (Nl _))));have HO4:=Hd (aD9 HO.out ((aB wr (.cells #[.string ⟨#[]⟩,.string ⟨#[]⟩,.string ⟨#[]⟩,.string ⟨#[]⟩,.string ⟨#[]⟩,.string ⟨#[]⟩,.string ⟨#[]⟩] 55)).trans (bx _ (Nl _))));clear kx bx gr)|(at_builtin;refine wpList_append_own_at _ rfl _ _ 36 rfl w.heap.size 9 i0 (.string ⟨#[]⟩) 1 16 underlying36 HINF.out.1 HINF.out.2.1 HINF.out.2.2.1 HINF.out.2.2.2 rfl (by decide) _ _ _ rfl (HO4.out.alloc _) ⟨w4.heap.size,0,none⟩ 1 1 [.string ⟨ot.toArray⟩] rfl rfl (fun j u hj=>aUb w4 #[.string ⟨ot.toArray⟩] _ j u hj) (by simp[Value.oneCell']) (by unfold maxLen;omega) (by omega) (by rw[World.size_alloc];exact Nat.le_succ_of_le HB4.out.size) ?_;intro v6 w6 hown' hgrow hx1 hx2;have HB6:=Hd (bF8 HO4.out HB4.out HB4.out.size hgrow).1;have HO6:=Hd hown';clear hown' hgrow hx1 hx2));have HO7b:Hid (w6.ownsRow w.heap.size 9 1 v6 (n0+(j+1)) (iS (bEd l0 f.options (j+1)))):=by
     show World.ownsRow _ _ _ _ _ _ _;rw[HNX.out];have h:=HO6.out;unfold iS at h ⊢;rw[List.map_append];exact h
    clear HO HB HO4 HB4 HO6 HNX HC HSO HO7 HONE HZO HST;go_wp2;go_roundw
    case rel=>exact⟨j+1,by omega,by go_num,HO7b,HB6⟩
    case measure=>simp[intOf];omega
   ·obtain rfl:j=f.options.length:=by omega
    have HL:Hid (n0+f.options.length=(bDp f).length/\bEd l0 f.options f.options.length=bDp f/\(bDp f).length<=1002):=by
     show _/\_;unfold bEd;rw[List.take_length,HRW3.out,List.length_append,List.length_map,hn0];exact⟨rfl,rfl,by omega⟩
    have HO2:=HO.out;rw[HL.out.1,HL.out.2.1] at HO2;have HDL:=Hd (bGj (bDp f) _ w.heap.size wr (by have:=HL.out.2.2;omega) HO2);have HO3:=Hd HO2;clear HO HO2;go_wp2_with fail;refine HDL.out.mono ?_;rintro e w2 ⟨v2,rfl,ho2,hg2⟩;have HB2:=Hd (Ut HO3.out hg2 HB.out HB.out.size);have HKE:Hid ((bDw (bDp f)).length<=1002):=by have h1:=bH4 (bDp f);have h2:=HL.out.2.2;show _<=_;omega
    have HSO:=Hd (bCr (bDw (bDp f)) v2 w.heap.size w2 (by have:=HKE.out;omega) ho2);have HO4:=Hd ho2;clear ho2 hg2 HDL HO3 HB;go_wp2_with fail;refine HSO.out.mono ?_;rintro e w3 ⟨rfl,ho3,hg3⟩;have HB3:=Hd (Ut HO4.out hg3 HB2.out HB2.out.size);have hml:((bDw (bDp f)).mergeSort fun x y=>decide (x<=y)).length=(bDw (bDp f)).length:=by simp
    rw[<-hml] at ho3;have HC:=Hd (bCe _ v2 w.heap.size w3 (by have:=HKE.out;omega) ho3);have HO5:=Hd ho3;rw[<-HRAW.out] at HC;clear ho3 hg3 HSO HO4 hml;go_wp2_with fail;refine HC.out.mono ?_;rintro e w4 ⟨v4,rfl,ho4,hg4⟩;have HB4:=Hd (Ut HO5.out hg4 HB3.out HB3.out.size);have HO6:=Hd ho4;clear ho4 hg4 HC HO5;go_wp2;go_ret;exact⟨v4,rfl,HO6.out,HB4.out⟩
 ·have hkk:ks=9∨ks=12:=by
   have h:(ks==9)=true∨(ks==12)=true:=by assumption
   rcases h with h|h
   ·exact .inl (eq_of_beq h)
   ·exact .inr (eq_of_beq h)
  obtain⟨l0,n0,hn2,hn0,HOL,HRW3⟩:∃(l0:List (List UInt8)) (n0:Nat),n0<=2/\l0.length=n0/\Hid (w5.ownsRow w.heap.size 9 1 v' n0 (iS l0))/\Hid (bDp f=l0++f.options.map (·.other)):=⟨[f.ins,f.other],2,Nl _,rfl,HO5.out,by show _=_;rw[HRW.out,if_pos hkk];rfl⟩
  have HBL:=Hd HB5.out;clear HO5 HB5 c19 hkk;clear HRW c5 c4 c6 HFA HFB HX HCN HSW HOA;go_loopw [3,25] (fun ov iv wr=>∃j:Nat,j<=f.options.length/\iv=.int .i64 (j:Int)/\Hid (wr.ownsRow w.heap.size 9 1 ov (n0+j) (iS (bEd l0 f.options j)))/\Hid (Below w.heap.size w wr)) (fun _ iv _=>f.options.length-(intOf iv).toNat)
  case atStart=>exact⟨0,Nat.zero_le _,rfl,by show World.ownsRow _ _ _ _ _ _ _;rw[show bEd l0 f.options 0=l0 by simp[bEd]];exact HOL.out,HBL⟩
  case round =>
   clear HOL HBL;obtain⟨j,hj,rfl,HO,HB⟩:=hrel
   by_cases hlt:j<f.options.length
   ·obtain⟨o,ho⟩:∃o,f.options[j]?=some o:=⟨_,Lg hlt⟩
    obtain⟨b,off,rfl,hbl,hc⟩:=HBO.out.addr (k:=j) (cs:=o.cells) (by rw[List.getElem?_map,ho];rfl);have HC:Hid (∀i v,o.cells.toArray.toList[i]?=some v->wr.cell? ⟨b,off+j*7+i,none⟩=some v):=fun i v hv=>(HB.out.cell (p:=⟨b,off+j*7+i,none⟩) hbl).trans (hc i v hv)
    have HSO:Hid ((prog.info? 55).map (·.size)=some o.cells.toArray.size):=by
     have h:(prog.info? 55).map (·.size)=some 7:=by kernel_rfl
     exact h
    have HO7:Hid ((#[.string ⟨#[]⟩,.string ⟨#[]⟩,.string ⟨#[]⟩,.string ⟨#[]⟩,.string ⟨#[]⟩,.string ⟨#[]⟩,.string ⟨#[]⟩]:Array Value).size=o.cells.toArray.size):=rfl;have HONE:Hid (o.cells.toArray.all (·.oneCell')=true):=by show _=_;unfold eJ.cells;simp[Value.oneCell']
    have HZO:Hid (aP (wr.alloc (.cells #[.string ⟨#[]⟩,.string ⟨#[]⟩,.string ⟨#[]⟩,.string ⟨#[]⟩,.string ⟨#[]⟩,.string ⟨#[]⟩,.string ⟨#[]⟩] 55)) wr.heap.size #[.string ⟨#[]⟩,.string ⟨#[]⟩,.string ⟨#[]⟩,.string ⟨#[]⟩,.string ⟨#[]⟩,.string ⟨#[]⟩,.string ⟨#[]⟩] 55):=aP.new0 _ _ _;have HST:Hid (o.cells.toArray[0]?=some (.string ⟨o.other.toArray⟩)):=rfl;have HNX:Hid (bEd l0 f.options (j+1)=bEd l0 f.options j ++ [o.other]):=by show _=_;unfold bEd;rw[List.take_add_one,ho];simp
    clear hc ho;generalize o.cells.toArray=oc7 at *;generalize o.other=ot at *;go_wp2_with (first|(refine aM rfl 55 _ rfl b (off+j*7) rfl oc7 _ HC.out underlying55 rfl HSO.out ?_)|(refine bC5 rfl 55 _ _ rfl wr.heap.size oc7 rfl rfl HZO.out HSO.out HO7.out HONE.out ?_;intro w4 kx bx gr;have c1:=(kx.cell 0).trans HST.out;have HB4:=Hd (aA HB.out ((aB wr (.cells #[.string ⟨#[]⟩,.string ⟨#[]⟩,.string ⟨#[]⟩,.string ⟨#[]⟩,.string ⟨#[]⟩,.string ⟨#[]⟩,.string ⟨#[]⟩] 55)).trans (bx _ (Nl _))));have HO4:=Hd (aD9 HO.out ((aB wr (.cells #[.string ⟨#[]⟩,.string ⟨#[]⟩,.string ⟨#[]⟩,.string ⟨#[]⟩,.string ⟨#[]⟩,.string ⟨#[]⟩,.string ⟨#[]⟩] 55)).trans (bx _ (Nl _))));clear kx bx gr)|(at_builtin;refine wpList_append_own_at _ rfl _ _ 36 rfl w.heap.size 9 i0 (.string ⟨#[]⟩) 1 16 underlying36 HINF.out.1 HINF.out.2.1 HINF.out.2.2.1 HINF.out.2.2.2 rfl (by decide) _ _ _ rfl (HO4.out.alloc _) ⟨w4.heap.size,0,none⟩ 1 1 [.string ⟨ot.toArray⟩] rfl rfl (fun j u hj=>aUb w4 #[.string ⟨ot.toArray⟩] _ j u hj) (by simp[Value.oneCell']) (by unfold maxLen;omega) (by omega) (by rw[World.size_alloc];exact Nat.le_succ_of_le HB4.out.size) ?_;intro v6 w6 hown' hgrow hx1 hx2;have HB6:=Hd (bF8 HO4.out HB4.out HB4.out.size hgrow).1;have HO6:=Hd hown';clear hown' hgrow hx1 hx2));have HO7b:Hid (w6.ownsRow w.heap.size 9 1 v6 (n0+(j+1)) (iS (bEd l0 f.options (j+1)))):=by
     show World.ownsRow _ _ _ _ _ _ _;rw[HNX.out];have h:=HO6.out;unfold iS at h ⊢;rw[List.map_append];exact h
    clear HO HB HO4 HB4 HO6 HNX HC HSO HO7 HONE HZO HST;go_wp2;go_roundw
    case rel=>exact⟨j+1,by omega,by go_num,HO7b,HB6⟩
    case measure=>simp[intOf];omega
   ·obtain rfl:j=f.options.length:=by omega
    have HL:Hid (n0+f.options.length=(bDp f).length/\bEd l0 f.options f.options.length=bDp f/\(bDp f).length<=1002):=by
     show _/\_;unfold bEd;rw[List.take_length,HRW3.out,List.length_append,List.length_map,hn0];exact⟨rfl,rfl,by omega⟩
    have HO2:=HO.out;rw[HL.out.1,HL.out.2.1] at HO2;have HDL:=Hd (bGj (bDp f) _ w.heap.size wr (by have:=HL.out.2.2;omega) HO2);have HO3:=Hd HO2;clear HO HO2;go_wp2_with fail;refine HDL.out.mono ?_;rintro e w2 ⟨v2,rfl,ho2,hg2⟩;have HB2:=Hd (Ut HO3.out hg2 HB.out HB.out.size);have HKE:Hid ((bDw (bDp f)).length<=1002):=by have h1:=bH4 (bDp f);have h2:=HL.out.2.2;show _<=_;omega
    have HSO:=Hd (bCr (bDw (bDp f)) v2 w.heap.size w2 (by have:=HKE.out;omega) ho2);have HO4:=Hd ho2;clear ho2 hg2 HDL HO3 HB;go_wp2_with fail;refine HSO.out.mono ?_;rintro e w3 ⟨rfl,ho3,hg3⟩;have HB3:=Hd (Ut HO4.out hg3 HB2.out HB2.out.size);have hml:((bDw (bDp f)).mergeSort fun x y=>decide (x<=y)).length=(bDw (bDp f)).length:=by simp
    rw[<-hml] at ho3;have HC:=Hd (bCe _ v2 w.heap.size w3 (by have:=HKE.out;omega) ho3);have HO5:=Hd ho3;rw[<-HRAW.out] at HC;clear ho3 hg3 HSO HO4 hml;go_wp2_with fail;refine HC.out.mono ?_;rintro e w4 ⟨v4,rfl,ho4,hg4⟩;have HB4:=Hd (Ut HO5.out hg4 HB3.out HB3.out.size);have HO6:=Hd ho4;clear ho4 hg4 HC HO5;go_wp2;go_ret;exact⟨v4,rfl,HO6.out,HB4.out⟩
 ·have h:(ks==9)=false/\(ks==12)=false:=by assumption
  rw[h.1,h.2,Bool.or_self];have hkk:¬ (ks=9∨ks=12):=by
   rintro(e|e)
   ·rw[e] at h;exact absurd h.1 (by decide)
   ·rw[e] at h;exact absurd h.2 (by decide)
  obtain⟨WL,hWL⟩:∃WL,WL=((w.alloc (.cells cs 29)).alloc (.cells #[.string ⟨f.ins.toArray⟩] 9)):=⟨_,rfl⟩
  rw[<-hWL] at HBA HOA ⊢;obtain⟨l0,n0,hn2,hn0,HOL,HRW3⟩:∃(l0:List (List UInt8)) (n0:Nat),n0<=2/\l0.length=n0/\Hid (WL.ownsRow w.heap.size 9 1 (.slice (some ⟨w.heap.size+1,0,none⟩) 1 1) n0 (iS l0))/\Hid (bDp f=l0++f.options.map (·.other)):=⟨[f.ins],1,by decide,rfl,HOA.out,by show _=_;rw[HRW.out,if_neg hkk];rfl⟩
  have HBL:=Hd HBA.out;clear HBA c19b hkk h;clear HRW c5 c4 c6 HFA HFB HX HCN HSW HOA;go_loopw [3,25] (fun ov iv wr=>∃j:Nat,j<=f.options.length/\iv=.int .i64 (j:Int)/\Hid (wr.ownsRow w.heap.size 9 1 ov (n0+j) (iS (bEd l0 f.options j)))/\Hid (Below w.heap.size w wr)) (fun _ iv _=>f.options.length-(intOf iv).toNat)
  case atStart=>exact⟨0,Nat.zero_le _,rfl,by show World.ownsRow _ _ _ _ _ _ _;rw[show bEd l0 f.options 0=l0 by simp[bEd]];exact HOL.out,HBL⟩
  case round =>
   clear HOL HBL;obtain⟨j,hj,rfl,HO,HB⟩:=hrel
   by_cases hlt:j<f.options.length
   ·obtain⟨o,ho⟩:∃o,f.options[j]?=some o:=⟨_,Lg hlt⟩
    obtain⟨b,off,rfl,hbl,hc⟩:=HBO.out.addr (k:=j) (cs:=o.cells) (by rw[List.getElem?_map,ho];rfl);have HC:Hid (∀i v,o.cells.toArray.toList[i]?=some v->wr.cell? ⟨b,off+j*7+i,none⟩=some v):=fun i v hv=>(HB.out.cell (p:=⟨b,off+j*7+i,none⟩) hbl).trans (hc i v hv)
    have HSO:Hid ((prog.info? 55).map (·.size)=some o.cells.toArray.size):=by
     have h:(prog.info? 55).map (·.size)=some 7:=by kernel_rfl
     exact h
    have HO7:Hid ((#[.string ⟨#[]⟩,.string ⟨#[]⟩,.string ⟨#[]⟩,.string ⟨#[]⟩,.string ⟨#[]⟩,.string ⟨#[]⟩,.string ⟨#[]⟩]:Array Value).size=o.cells.toArray.size):=rfl;have HONE:Hid (o.cells.toArray.all (·.oneCell')=true):=by show _=_;unfold eJ.cells;simp[Value.oneCell']
    have HZO:Hid (aP (wr.alloc (.cells #[.string ⟨#[]⟩,.string ⟨#[]⟩,.string ⟨#[]⟩,.string ⟨#[]⟩,.string ⟨#[]⟩,.string ⟨#[]⟩,.string ⟨#[]⟩] 55)) wr.heap.size #[.string ⟨#[]⟩,.string ⟨#[]⟩,.string ⟨#[]⟩,.string ⟨#[]⟩,.string ⟨#[]⟩,.string ⟨#[]⟩,.string ⟨#[]⟩] 55):=aP.new0 _ _ _;have HST:Hid (o.cells.toArray[0]?=some (.string ⟨o.other.toArray⟩)):=rfl;have HNX:Hid (bEd l0 f.options (j+1)=bEd l0 f.options j ++ [o.other]):=by show _=_;unfold bEd;rw[List.take_add_one,ho];simp
    clear hc ho;generalize o.cells.toArray=oc7 at *;generalize o.other=ot at *;go_wp2_with (first|(refine aM rfl 55 _ rfl b (off+j*7) rfl oc7 _ HC.out underlying55 rfl HSO.out ?_)|(refine bC5 rfl 55 _ _ rfl wr.heap.size oc7 rfl rfl HZO.out HSO.out HO7.out HONE.out ?_;intro w4 kx bx gr;have c1:=(kx.cell 0).trans HST.out;have HB4:=Hd (aA HB.out ((aB wr (.cells #[.string ⟨#[]⟩,.string ⟨#[]⟩,.string ⟨#[]⟩,.string ⟨#[]⟩,.string ⟨#[]⟩,.string ⟨#[]⟩,.string ⟨#[]⟩] 55)).trans (bx _ (Nl _))));have HO4:=Hd (aD9 HO.out ((aB wr (.cells #[.string ⟨#[]⟩,.string ⟨#[]⟩,.string ⟨#[]⟩,.string ⟨#[]⟩,.string ⟨#[]⟩,.string ⟨#[]⟩,.string ⟨#[]⟩] 55)).trans (bx _ (Nl _))));clear kx bx gr)|(at_builtin;refine wpList_append_own_at _ rfl _ _ 36 rfl w.heap.size 9 i0 (.string ⟨#[]⟩) 1 16 underlying36 HINF.out.1 HINF.out.2.1 HINF.out.2.2.1 HINF.out.2.2.2 rfl (by decide) _ _ _ rfl (HO4.out.alloc _) ⟨w4.heap.size,0,none⟩ 1 1 [.string ⟨ot.toArray⟩] rfl rfl (fun j u hj=>aUb w4 #[.string ⟨ot.toArray⟩] _ j u hj) (by simp[Value.oneCell']) (by unfold maxLen;omega) (by omega) (by rw[World.size_alloc];exact Nat.le_succ_of_le HB4.out.size) ?_;intro v6 w6 hown' hgrow hx1 hx2;have HB6:=Hd (bF8 HO4.out HB4.out HB4.out.size hgrow).1;have HO6:=Hd hown';clear hown' hgrow hx1 hx2));have HO7b:Hid (w6.ownsRow w.heap.size 9 1 v6 (n0+(j+1)) (iS (bEd l0 f.options (j+1)))):=by
     show World.ownsRow _ _ _ _ _ _ _;rw[HNX.out];have h:=HO6.out;unfold iS at h ⊢;rw[List.map_append];exact h
    clear HO HB HO4 HB4 HO6 HNX HC HSO HO7 HONE HZO HST;go_wp2;go_roundw
    case rel=>exact⟨j+1,by omega,by go_num,HO7b,HB6⟩
    case measure=>simp[intOf];omega
   ·obtain rfl:j=f.options.length:=by omega
    have HL:Hid (n0+f.options.length=(bDp f).length/\bEd l0 f.options f.options.length=bDp f/\(bDp f).length<=1002):=by
     show _/\_;unfold bEd;rw[List.take_length,HRW3.out,List.length_append,List.length_map,hn0];exact⟨rfl,rfl,by omega⟩
    have HO2:=HO.out;rw[HL.out.1,HL.out.2.1] at HO2;have HDL:=Hd (bGj (bDp f) _ w.heap.size wr (by have:=HL.out.2.2;omega) HO2);have HO3:=Hd HO2;clear HO HO2;go_wp2_with fail;refine HDL.out.mono ?_;rintro e w2 ⟨v2,rfl,ho2,hg2⟩;have HB2:=Hd (Ut HO3.out hg2 HB.out HB.out.size);have HKE:Hid ((bDw (bDp f)).length<=1002):=by have h1:=bH4 (bDp f);have h2:=HL.out.2.2;show _<=_;omega
    have HSO:=Hd (bCr (bDw (bDp f)) v2 w.heap.size w2 (by have:=HKE.out;omega) ho2);have HO4:=Hd ho2;clear ho2 hg2 HDL HO3 HB;go_wp2_with fail;refine HSO.out.mono ?_;rintro e w3 ⟨rfl,ho3,hg3⟩;have HB3:=Hd (Ut HO4.out hg3 HB2.out HB2.out.size);have hml:((bDw (bDp f)).mergeSort fun x y=>decide (x<=y)).length=(bDw (bDp f)).length:=by simp
    rw[<-hml] at ho3;have HC:=Hd (bCe _ v2 w.heap.size w3 (by have:=HKE.out;omega) ho3);have HO5:=Hd ho3;rw[<-HRAW.out] at HC;clear ho3 hg3 HSO HO4 hml;go_wp2_with fail;refine HC.out.mono ?_;rintro e w4 ⟨v4,rfl,ho4,hg4⟩;have HB4:=Hd (Ut HO5.out hg4 HB3.out HB3.out.size);have HO6:=Hd ho4;clear ho4 hg4 HC HO5;go_wp2;go_ret;exact⟨v4,rfl,HO6.out,HB4.out⟩
end
section
open Go Go.RowKit Num
noncomputable def bTq:Array Oper:=(f33.body.bind (jE 4)).getD #[]
def bTx:List (Nat×Nat):=[(0,22),(1,23),(2,24)]
structure X4C where
 W0:World
 b0:Nat
 b1:Nat
 b2:Nat
 b5:Nat
 b6:Nat
 A:Array Value
 C:Array Value
def X4C.B:Array Value:=exB.cellsW bBy bBy
def X4C.val(K:X4C)(_:Unit):Nat->Value
 |0=>.agg K.A
 |1=>.agg X4C.B
 |_=>.agg K.C
def X4C.G(K:X4C)(_:Unit)(l:Array Bool)(W:World):Prop :=
 (¬ lP l 3->W=K.W0)/\(lP l 3->¬ lP l 4->W=K.W0.setRow K.b0 K.A)/\(lP l 4->¬ lP l 5->W=(K.W0.setRow K.b0 K.A).setRow K.b1 X4C.B)/\(lP l 5->W=((K.W0.setRow K.b0 K.A).setRow K.b1 X4C.B).setRow K.b2 K.C)
structure X4M(K:X4C)(t0:Array Value):Prop where
 sz:t0.size=25
 t0':t0[0]?=some (.pointer (some ⟨K.b0,0,none⟩))
 t1:t0[1]?=some (.pointer (some ⟨K.b1,0,none⟩))
 t2:t0[2]?=some (.pointer (some ⟨K.b2,0,none⟩))
 t5:t0[5]?=some (.pointer (some ⟨K.b5,0,none⟩))
 t6:t0[6]?=some (.pointer (some ⟨K.b6,0,none⟩))
 k0:aP K.W0 K.b0 (bDh.cellsW bBy bBy) 29
 k1:aP K.W0 K.b1 (bDh.cellsW bBy bBy) 29
 k2:aP K.W0 K.b2 (bDh.cellsW bBy bBy) 29
 k5:aP K.W0 K.b5 K.A 29
 k6:aP K.W0 K.b6 K.C 29
 sA:K.A.size=21
 sC:K.C.size=21
 oA:K.A.all (·.oneCell')=true
 oC:K.C.all (·.oneCell')=true
 n01:K.b0≠K.b1
 n02:K.b0≠K.b2
 n12:K.b1≠K.b2
 n06:K.b6≠K.b0
 n16:K.b6≠K.b1
theorem bG5{W:World}{b g:Nat}{cs ds:Array Value}{T:TypeId}(h:aP W b cs T)(hne:b≠g):aP (W.setRow g ds) b cs T:=⟨by simp[World.setRow];exact h.1,(setRow_other W g b ds hne).trans h.2⟩
theorem bJy{cs:Array Value}(h:cs.size=21):(prog.info? 29).map (·.size)=some cs.size:=by
 rw[h]
 kernel_rfl
theorem bTf{K:X4C}{t0:Array Value}{Q:Exit->Act->World->Prop}{w:World}{d0:List Deferred}(M:X4M K t0){a:Act}(hdf:a.defers=d0)(ht:a.tmps=t0)(hw:w.drewN 1=K.W0)
  (hQ:Q .normal { tmps:=iZ (K.val ()) bTx t0,defers:=d0 } (((K.W0.setRow K.b0 K.A).setRow K.b1 X4C.B).setRow K.b2 K.C)):(Code.region 4 bTq true).wp prog Q a w:=by
 have hsz:bTq.size=6:=by kernel_rfl
 have hbs:∀u,¬ lP (Array.replicate bTq.size false) u:=fun u=>Gu _ u
 refine eV (ds:=bTx) (val:=K.val) (G:=K.G) (by kernel_rfl) (by kernel_rfl) (by decide) (fun p hp=>?_) (by kernel_rfl) ?_ (γ:=()) hdf ht (by rw[hw];exact⟨fun _=>rfl,fun h=>absurd h (hbs _),fun h=>absurd h (hbs _),fun h=>absurd h (hbs _)⟩) ?_
 ·rw[M.sz];have:∀p,p∈bTx->p.2<25:=by decide
  exact this p hp
 ·intro γ l a w i H hr;have hi:i<6:=by
   obtain⟨_,o,ho,_⟩:=mem_ready.1 hr;have:=(Ai.1 ho).1;rw[hsz] at this;exact this
  have hno:=bDz hr;cases γ;have t0':=H.low (s:=0) (by decide) M.t0';have t1:=H.low (s:=1) (by decide) M.t1;have t2:=H.low (s:=2) (by decide) M.t2;have t5:=H.low (s:=5) (by decide) M.t5;have t6:=H.low (s:=6) (by decide) M.t6;have c5:¬ lP l 5->aP w K.b6 K.C 29:=fun h5=>by
   obtain⟨g1,g2,g3,g4⟩:=H.g
   by_cases h3:lP l 3
   ·by_cases h4:lP l 4
    ·rw[g3 h4 h5];exact bG5 (bG5 M.k6 M.n06) M.n16
    ·rw[g2 h3 h4];exact bG5 M.k6 M.n06
   ·rw[g1 h3];exact M.k6
  have keep:∀ {j:Nat},j≠3->j≠4->j≠5->K.G () (l.setIfInBounds j true) w:=fun h3 h4 h5=>by
   obtain⟨g1,g2,g3,g4⟩:=H.g;exact⟨fun h=>g1 (fun g=>h (fH g)),fun h h'=>g2 (mQ h (Ne.symm h3)) (fun g=>h' (fH g)),fun h h'=>g3 (mQ h (Ne.symm h4)) (fun g=>h' (fH g)),fun h=>g4 (mQ h (Ne.symm h5))⟩
  match i,hi,hr with
  |0,_,hr =>
   have h3:¬ lP l 3:=fun h=>hno (H.back13 3 0 (by kernel_rfl) h)
   have hW:=H.g.1 h3;exact aWj (.load 29 (.tmp 5)) (.agg K.A) (fun o h=>aW (b:=K.b5) (off:=0) h (by simp[Act.eval,t5]) (fun j v hv=>by rw[hW];exact(M.k5.cell _).trans (by rw[Nat.zero_add,<-Array.getElem?_toList];exact hv)) underlying29 rfl (bJy M.sA)) (keep (by decide) (by decide) (by decide))
  |1,_,hr=>exact aWj (.build 29 #[(0,.const (.string ⟨#[98,49]⟩)),(1,.const (.int .i64 9)),(2,.const (.bool true))]) (.agg X4C.B) (fun o h=>by simp[execOp,h,go_sem];rfl) (keep (by decide) (by decide) (by decide))
  |2,_,hr =>
   have h5:¬ lP l 5:=fun h=>hno (H.back13 5 2 (by kernel_rfl) h)
   exact aWj (.load 29 (.tmp 6)) (.agg K.C) (fun o h=>aW (b:=K.b6) (off:=0) h (by simp[Act.eval,t6]) (fun j v hv=>((c5 h5).cell _).trans (by rw[Nat.zero_add,<-Array.getElem?_toList];exact hv)) underlying29 rfl (bJy M.sC)) (keep (by decide) (by decide) (by decide))
  |3,_,hr =>
   have h4:¬ lP l 4:=fun h=>hno (H.back13 4 3 (by kernel_rfl) h)
   have h5:¬ lP l 5:=fun h=>h4 (H.back13 5 4 (by kernel_rfl) h)
   have hW:=H.g.1 hno;subst hW;have v0:a.tmps[22]?=some (.agg K.A):=H.dep hr 0 22;exact aH0 (X:=.store 29 (.tmp 0) (.tmp 22)) (by kernel_rfl) (fun o h=>Bi h (by simp[Act.eval,t0']) (by simp[Act.eval,v0]) M.k0 (bJy M.sA) M.sA.symm M.oA) ⟨fun h=>absurd (zE (by rw[H.sz,hsz];decide)) h,fun _ _=>rfl,fun h=>absurd (mQ h (by decide)) h4,fun h=>absurd (mQ h (by decide)) h5⟩
  |4,_,hr =>
   have h5:¬ lP l 5:=fun h=>hno (H.back13 5 4 (by kernel_rfl) h)
   have h3:lP l 3:=aG hr (by kernel_rfl);have hW:=H.g.2.1 h3 hno;subst hW;have v1:a.tmps[23]?=some (.agg X4C.B):=H.dep hr 1 23;exact aH0 (X:=.store 29 (.tmp 1) (.tmp 23)) (by kernel_rfl) (fun o h=>Bi (cells:=X4C.B) h (by simp[Act.eval,t1]) (by simp[Act.eval,v1]) (bG5 M.k1 (Ne.symm M.n01)) (bJy rfl) rfl (bD1 rfl rfl)) ⟨fun h=>absurd (fH h3) h,fun _ h=>absurd (zE (by rw[H.sz,hsz];decide)) h,fun _ _=>rfl,fun h=>absurd (mQ h (by decide)) h5⟩
  |5,_,hr =>
   have h4:lP l 4:=aG hr (by kernel_rfl);have h3:lP l 3:=H.back13 4 3 (by kernel_rfl) h4;have hW:=H.g.2.2.1 h4 hno;subst hW;have v2:a.tmps[24]?=some (.agg K.C):=H.dep hr 2 24;exact aH0 (X:=.store 29 (.tmp 2) (.tmp 24)) (by kernel_rfl) (fun o h=>Bi h (by simp[Act.eval,t2]) (by simp[Act.eval,v2]) (bG5 (bG5 M.k2 (Ne.symm M.n02)) (Ne.symm M.n12)) (bJy M.sC) M.sC.symm M.oC) ⟨fun h=>absurd (fH h3) h,fun _ h=>absurd (fH h4) h,fun _ h=>absurd (zE (by rw[H.sz,hsz];decide)) h,fun _=>rfl⟩
  |n+6,h,_=>exact absurd h (by omega)
 ·rintro γ l W hall ⟨g1,g2,g3,g4⟩;obtain rfl:=g4 (hall 5 (by rw[hsz];decide));exact hQ
end
section
open Go Go.RowKit Num
def bMi:Array Value:=bQf.cells.toArray++bQe.cells.toArray
theorem bRm(w:World):(Instr.buildSlice 27 2 #[(0,.agg bQf.cells.toArray),(1,.agg bQe.cells.toArray)]).run prog w=.ok (.slice (some ⟨w.heap.size,0,none⟩) 2 2) (w.alloc (.cells bMi 55)):=by
 unfold bMi eJ.cells bQf bQe bD4;simp[go_sem]
theorem bN8{P:Program}{ops:Array Oper}{rest:List Oper}{o:Oper}{a:Act}{w w':World}{Q:Exit->Act->World->Prop}(hgd:o.guard=none)(t:TypeId)(n:Nat)(ps:Array (Nat×Operand))(ho:o.op=.buildSlice t n ps)(qs:Array (Nat×Value))(v:Value)
  (hps:(ps.map fun (i,x)=>(i,a.eval x))=qs) (hrun:(Instr.buildSlice t n qs).run P w=.ok v w') (h:wpList P ops Q rest (a.put o.dst v) w'):wpList P ops Q (o::rest) a w:=by
 refine wpList_plain hgd fun K hK=>Dp ho (v:=v) (w':=w') ?_ (hK _ _ h)
 rw[hps];exact hrun
theorem bFn{P:Program}{ops:Array Oper}{rest:List Oper}{o:Oper}{a:Act}{w:World}{Q:Exit->Act->World->Prop}(hw:Region.wanted o (yielded ops a.tmps)=true)(ty:TypeId)(x:Operand)(ho:o.op=.load ty x)
  (g:Nat) (hx:a.eval x=.pointer (some ⟨g,0,none⟩)) (t:TypeId) (cs:Array Value) (fr:Nat×Nat) (d:TypeDesc) (hg:w.heap[g]?=some (.cells cs t fr))
  (hu:P.underlying ty=some d) (hd:(match d with | .struct _ | .array _ _=>true|_=>false)=true) (hi:(P.info? ty).map (·.size)=some cs.size)
  (h:wpList P ops Q rest (a.put o.dst (.agg cs)) w):wpList P ops Q (o::rest) a w :=
 wpList_step fun K hK=>by rw[if_pos hw];exact wp_load_row ty x ho g hx t cs fr d hg hu hd hi (hK _ _ h)
theorem bQ0{P:Program}{fn:Func}{p q r:Tmp}{ty:TypeId}(h:fn.results=#[.cell p ty,.cell q ty,.cell r ty])(tmps:Array Value)(w:World)(g1 g2 g3:Nat)(t:TypeId)(c1 c2 c3:Array Value)(d:TypeDesc)
  (hp:tmps.getD p undef=.pointer (some ⟨g1,0,none⟩)) (hq:tmps.getD q undef=.pointer (some ⟨g2,0,none⟩)) (hr:tmps.getD r undef=.pointer (some ⟨g3,0,none⟩)) (k1:aP w g1 c1 t) (k2:aP w g2 c2 t) (k3:aP w g3 c3 t)
  (hu:P.underlying ty=some d) (hd:(match d with | .struct _ | .array _ _=>true|_=>false)=true) (h1:(P.info? ty).map (·.size)=some c1.size) (h2:(P.info? ty).map (·.size)=some c2.size) (h3:(P.info? ty).map (·.size)=some c3.size) :
  (results fn tmps).run P w=.ok (.tuple #[.agg c1,.agg c2,.agg c3]) w:=by
 have hp':tmps[p]?.getD undef=.pointer (some ⟨g1,0,none⟩):=by simpa using hp
 have hq':tmps[q]?.getD undef=.pointer (some ⟨g2,0,none⟩):=by simpa using hq
 have hr':tmps[r]?.getD undef=.pointer (some ⟨g3,0,none⟩):=by simpa using hr
 simp[results,h,hp',hq',hr',asAddr,run_loadVar_row w g1 t ty c1 _ d k1.2 hu hd h1,run_loadVar_row w g2 t ty c2 _ d k2.2 hu hd h2,run_loadVar_row w g3 t ty c3 _ d k3.2 hu hd h3]
def Z13:Obj:=.cells #[.string ⟨#[]⟩,.int .i64 0,.bool false,.int .i64 0,.int .i64 0,.string ⟨#[]⟩,.string ⟨#[]⟩,.string ⟨#[]⟩,.string ⟨#[]⟩,.string ⟨#[]⟩,.string ⟨#[]⟩,.string ⟨#[]⟩,.string ⟨#[]⟩,.string ⟨#[]⟩,.string ⟨#[]⟩,.string ⟨#[]⟩,.string ⟨#[]⟩,.string ⟨#[]⟩,.slice none 0 0,.slice none 0 0,.int .i64 0] 29
theorem bFz(w:World):aP (w.alloc Z13) w.heap.size (bDh.cellsW bBy bBy) 29:=aP.new0 _ _ _
theorem bQ3{w:World}{b:Nat}(h:aP w b bMi 55):exC.Behind w none (some ⟨b,0,none⟩):=by
 refine⟨.inl rfl,.inr ⟨b,0,rfl,h.1,fun k cs hk j v hv=>?_⟩⟩;rw[Nat.zero_add];refine(h.cell _).trans ?_
 match k,hk with
 |0,hk =>
  obtain rfl:cs=bQf.cells:=(Option.some.inj hk).symm;rw[Nat.zero_mul,Nat.zero_add];have hj:j<7:=(Li.1 hv).1;unfold bMi;rw[<-Array.getElem?_toList,Array.toList_append,List.getElem?_append_left (by exact hj)];exact hv
 |1,hk =>
  obtain rfl:cs=bQe.cells:=(Option.some.inj hk).symm;have hj:j<7:=(Li.1 hv).1;unfold bMi;rw[<-Array.getElem?_toList,Array.toList_append,List.getElem?_append_right (by show 7<=1*7+j;omega)];rw[show 1*7+j-bQf.cells.toArray.toList.length=j by show 1*7+j-7=j;omega];exact hv
 |k+2,hk=>simp[exC] at hk
def bLf(b:Nat):Array Value:=exC.cells none 0 (some ⟨b,0,none⟩) 2
theorem bJs(w:World):Calls prog 33 #[] w fun e w'=>(∃b,e=.returned (.tuple #[.agg (exA.cellsW bBy bBy),.agg X4C.B,.agg (bLf b)])/\exC.Behind w' none (some ⟨b,0,none⟩))/\Below w.heap.size w w':=by
 obtain⟨wA,hwA⟩:∃wA,wA=w.alloc Z13:=⟨_,rfl⟩
 obtain⟨wB,hwB⟩:∃wB,wB=wA.alloc Z13:=⟨_,rfl⟩
 obtain⟨wC,hwC⟩:∃wC,wC=wB.alloc Z13:=⟨_,rfl⟩
 have sA:wA.heap.size=w.heap.size+1:=by rw[hwA,World.size_alloc]
 have sB:wB.heap.size=w.heap.size+1+1:=by rw[hwB,World.size_alloc,sA]
 have sC:wC.heap.size=w.heap.size+1+1+1:=by rw[hwC,World.size_alloc,sB]
 have bA:Below w.heap.size w wA:=by rw[hwA];exact aB _ _
 have bB:Below wA.heap.size wA wB:=by rw[hwB];exact aB _ _
 have bC:Below wB.heap.size wB wC:=by rw[hwC];exact aB _ _
 have k0:aP wA w.heap.size (bDh.cellsW bBy bBy) 29:=by rw[hwA];exact bFz w
 have k1:aP wB (w.heap.size+1) (bDh.cellsW bBy bBy) 29:=by rw[hwB,<-sA];exact bFz wA
 have k2:aP wC (w.heap.size+1+1) (bDh.cellsW bBy bBy) 29:=by rw[hwC,<-sB];exact bFz wB
 have K0:=Hd ((k0.below bB).below bC);have K1:=Hd (k1.below bC);have K2:=Hd k2;have HB:=Hd ((bA.trans (bB.mono bA.size)).trans (bC.mono (Nat.le_trans bA.size bB.size)));have SC:=Hd sC;clear bA bB bC k0 k1 k2 sA sB sC;have HSZ:Hid (∀c:Array Value,c.size=21->(prog.info? 29).map (·.size)=some c.size):=fun c=>bJy
 obtain⟨cA,hcA⟩:∃c,c=exA.cellsW bBy bBy:=⟨_,rfl⟩
 obtain⟨dd,hdd⟩:∃d,d=exD:=⟨_,rfl⟩
 have hex:(Cal.num 2024 1 31-25567)=dd:=by rw[hdd];rfl
 have HA:Hid (cA=#[.string ⟨#[98,49]⟩,.int .i64 7,.bool false,.int .i64 dd,.int .i64 3,.string ⟨#[97,98,99]⟩,.string ⟨#[]⟩,.string ⟨#[]⟩,.string ⟨#[]⟩,.string ⟨#[49,48]⟩,.string ⟨#[49,48,48,48]⟩,.string ⟨#[53]⟩,.string ⟨#[]⟩,.string ⟨#[]⟩,.string ⟨#[]⟩,.string ⟨#[]⟩,.string ⟨#[]⟩,.string ⟨#[]⟩,.slice none 0 0,.slice none 0 0,.int .i64 0]):=by show _=_;rw[hcA,hdd];rfl
 have HC:Hid (∀b,bLf b=#[.string ⟨#[120,49]⟩,.int .i64 8,.bool false,.int .i64 dd,.int .i64 10,.string ⟨#[97,98,99]⟩,.string ⟨#[]⟩,.string ⟨#[]⟩,.string ⟨#[]⟩,.string ⟨#[]⟩,.string ⟨#[]⟩,.string ⟨#[]⟩,.string ⟨#[]⟩,.string ⟨#[]⟩,.string ⟨#[]⟩,.string ⟨#[]⟩,.string ⟨#[]⟩,.string ⟨#[]⟩,.slice none 0 0,.slice (some ⟨b,0,none⟩) 2 2,.int .i64 0]):=fun b=>by rw[hdd];rfl
 have HOA:Hid (cA.size=21/\cA.all (·.oneCell')=true):=by show _/\_;rw[HA.out];exact⟨rfl,by simp[Value.oneCell']⟩
 rw[<-hcA];clear hcA hdd;go_enter func33,ntmps33;go_wp2_with fail;unfold Z13 at hwA hwB hwC;rw[<-hwA,<-hwB,<-hwC];clear hwA hwB hwC;refine(Dt.of_yes 2024 1 31 wC (by unfold Cal.Valid;decide)).mono ?_;rintro e w1 ⟨rfl,hb⟩;rw[hex];clear hex;have J0:=Hd (K0.out.below hb);have J1:=Hd (K1.out.below hb);have J2:=Hd (K2.out.below hb);have HS1:Hid (w.heap.size+1+1+1<=w1.heap.size):=by show _<=_;rw[<-SC.out];exact hb.size
 have HB1:=Hd (HB.out.trans (hb.mono HB.out.size));have KZ5:=Hd (bFz w1);have BZ5:=Hd (aB w1 Z13);unfold Z13 at KZ5 BZ5;clear hb HB SC K0 K1 K2;go_wp2_with (first
  |(refine bC5 rfl 29 _ _ rfl w1.heap.size cA rfl (by rw[HA.out];rfl) KZ5.out (HSZ.out _ HOA.out.1) (by rw[HOA.out.1];rfl) HOA.out.2 ?_;intro w5 kx bx gr;have K5:=Hd kx;have B5:=Hd (BZ5.out.trans (bx _ (Nl _)));clear kx bx gr;clear KZ5 BZ5;have HRUN:=Hd (bRm w5);obtain⟨w6,hw6⟩:∃w6,w6=w5.alloc (.cells bMi 55):=⟨_,rfl⟩;have HB6:Hid (Below w5.heap.size w5 w6):=(by show Below _ _ _;rw[hw6];exact aB _ _);have HO6:Hid (aP w6 w5.heap.size bMi 55):=(by show aP _ _ _ _;rw[hw6];exact aP.new0 _ _ _);rw[<-hw6] at HRUN;clear hw6;have KZ7:=Hd (bFz w6);have BZ7:=Hd (aB w6 Z13);unfold Z13 at KZ7 BZ7)
  |(refine bN8 rfl 27 2 _ rfl #[(0,.agg bQf.cells.toArray),(1,.agg bQe.cells.toArray)] _ (by first|rfl|kernel_rfl) HRUN.out ?_)
  |(refine bC5 rfl 29 _ _ rfl w6.heap.size (bLf w5.heap.size) rfl (by rw[HC.out];rfl) KZ7.out (HSZ.out _ rfl) rfl (by rw[HC.out];simp[Value.oneCell']) ?_;intro w7 kx bx gr;have K7:=Hd kx;have B7:=Hd (BZ7.out.trans (bx _ (Nl _)));clear kx bx gr;clear KZ7 BZ7))
 have z5:w1.heap.size<=w5.heap.size:=B5.out.size;have z6:w5.heap.size<=w6.heap.size:=HB6.out.size;have z1:=HS1.out;have b5:Below w5.heap.size w5 (w7.drewN 1):=aD (HB6.out.trans (B7.out.mono z6)) 1;have b7:Below w6.heap.size w6 (w7.drewN 1):=aD B7.out 1;have b1:Below w1.heap.size w1 (w7.drewN 1):=B5.out.trans (b5.mono z5);refine bTf (K:=⟨w7.drewN 1,w.heap.size,w.heap.size+1,w.heap.size+1+1,w1.heap.size,w6.heap.size,cA,bLf w5.heap.size⟩) ⟨rfl,rfl,rfl,rfl,rfl,rfl,J0.out.below b1,J1.out.below b1,J2.out.below b1,K5.out.below b5,K7.out.below (aD (Br _ _) 1),HOA.out.1,rfl,HOA.out.2,(by rw[HC.out];simp[Value.oneCell']),by simp,by simp;omega,by simp,by simp;omega,by simp;omega⟩ rfl rfl rfl ?_;have n0:aP (w7.drewN 1) w.heap.size (bDh.cellsW bBy bBy) 29:=J0.out.below b1;have n1:aP (w7.drewN 1) (w.heap.size+1) (bDh.cellsW bBy bBy) 29:=J1.out.below b1;have n2:aP (w7.drewN 1) (w.heap.size+1+1) (bDh.cellsW bBy bBy) 29:=J2.out.below b1;have q0:aP ((w7.drewN 1).setRow w.heap.size cA) w.heap.size cA 29:=⟨by simp[World.setRow];exact n0.1,setRow_heap _ _ _ _ _ _ n0.2⟩
 have q1:aP (((w7.drewN 1).setRow w.heap.size cA).setRow (w.heap.size+1) X4C.B) (w.heap.size+1) X4C.B 29:=⟨by simp[World.setRow];exact n1.1,setRow_heap _ _ _ _ _ _ (bG5 n1 (by omega)).2⟩
 have q2:aP ((((w7.drewN 1).setRow w.heap.size cA).setRow (w.heap.size+1) X4C.B).setRow (w.heap.size+1+1) (bLf w5.heap.size)) (w.heap.size+1+1) (bLf w5.heap.size) 29:=⟨by simp[World.setRow];exact n2.1,setRow_heap _ _ _ _ _ _ (bG5 (bG5 n2 (by omega)) (by omega)).2⟩
 have m0:=bG5 (ds:=bLf w5.heap.size) (bG5 (ds:=X4C.B) q0 (show w.heap.size≠w.heap.size+1 by omega)) (show w.heap.size≠w.heap.size+1+1 by omega);have m1:=bG5 (ds:=bLf w5.heap.size) q1 (show w.heap.size+1≠w.heap.size+1+1 by omega);have HM:=Hd (And.intro m0 (And.intro m1 q2));have HBE:Hid (Below w.heap.size w ((((w7.drewN 1).setRow w.heap.size cA).setRow (w.heap.size+1) X4C.B).setRow (w.heap.size+1+1) (bLf w5.heap.size))):=below_setRow (below_setRow (below_setRow (HB1.out.trans (b1.mono (by omega))) (Nl _) _) (by omega) _) (by omega) _;have HOP:Hid (exC.Behind ((((w7.drewN 1).setRow w.heap.size cA).setRow (w.heap.size+1) X4C.B).setRow (w.heap.size+1+1) (bLf w5.heap.size)) none (some ⟨w5.heap.size,0,none⟩)):=by
  have o6:aP (w7.drewN 1) w5.heap.size bMi 55:=HO6.out.below (aD B7.out 1);exact bQ3 (bG5 (bG5 (bG5 o6 (by omega)) (by omega)) (by omega))
 clear m0 m1 q2 q0 q1 n0 n1 n2 b1 b5 b7 z1 z5 z6 J0 J1 J2 K5 K7 B5 B7 HB6 HO6 HRUN HS1 HB1;simp only[iZ,bTx,List.foldl,X4C.val];generalize((((w7.drewN 1).setRow w.heap.size cA).setRow (w.heap.size+1) X4C.B).setRow (w.heap.size+1+1) (bLf w5.heap.size))=wz at *;go_wp2_with fail;refine bodyPost_ret (v:=.tuple #[.agg cA,.agg X4C.B,.agg (bLf w5.heap.size)]) (bQ0 results33 _ _ w.heap.size (w.heap.size+1) (w.heap.size+1+1) 29 cA X4C.B (bLf w5.heap.size) _ rfl rfl rfl HM.out.1 HM.out.2.1 HM.out.2.2 underlying29 rfl (HSZ.out _ HOA.out.1) (HSZ.out _ rfl) (HSZ.out _ rfl)) rfl ?_;exact⟨⟨_,rfl,HOP.out⟩,HBE.out⟩
end
section
open Go Go.RowKit Num
def bEf{α:Type}(e:α->α->Bool):List α->List α->Bool
 | [],[]=>true
 |x::r,y::s=>e x y&&bEf e r s
 |_,_=>false
theorem bH9{α:Type}{e:α->α->Bool}:∀ {l m:List α},bEf e l m=true->l.length=m.length
 | [],[],_=>rfl
 |x::r,y::s,h=>by
  unfold bEf at h;rw[Bool.and_eq_true] at h;simp[bH9 h.2]
 | [],y::s,h=>by cases h
 |x::r,[],h=>by cases h
theorem bIb{α:Type}{e:α->α->Bool}:∀ {l m:List α},l.length=m.length->(∀(j:Nat) x y,l[j]?=some x->m[j]?=some y->e x y=true)->bEf e l m=true
 | [],[],_,_=>rfl
 |x::r,y::s,hl,h=>by
  unfold bEf;rw[h 0 x y rfl rfl,bIb (by simpa using hl) (fun j x y h1 h2=>h (j+1) x y (by simpa using h1) (by simpa using h2))];rfl
 | [],y::s,h,_=>by simp at h
 |x::r,[],h,_=>by simp at h
theorem bH8{α:Type}{e:α->α->Bool}:∀ {l m:List α}{j:Nat}{x y:α},l[j]?=some x->m[j]?=some y->e x y=false->bEf e l m=false
 | [],_,j,x,y,h,_,_=>by simp at h
 |_::_,[],j,x,y,_,h,_=>by simp at h
 |a::r,b::s,0,x,y,h1,h2,h=>by
  simp at h1 h2;subst h1 h2;unfold bEf;rw[h];rfl
 |a::r,b::s,j+1,x,y,h1,h2,h=>by
  unfold bEf;rw[bH8 (j:=j) (by simpa using h1) (by simpa using h2) h,Bool.and_false]
theorem bIa{α:Type}{e:α->α->Bool}(he:∀x y,e x y=true↔x=y):∀ {l m:List α},bEf e l m=true↔l=m
 | [],[]=>by simp[bEf]
 |x::r,y::s=>by
  unfold bEf;rw[Bool.and_eq_true,he,bIa he];simp
 | [],y::s=>by simp[bEf]
 |x::r,[]=>by simp[bEf]
theorem bJz{P:Program}{o:Oper}{a:Act}{w:World}{op:BinOp}{t t':TypeId}{x y:Operand}{u v r:Value}(ho:o.op=.binOp op t x y t')(hx:a.eval x=u)(hy:a.eval y=v)(hg:(eqGuard op t x y u v).run P w=.ok () w)(hb:(binOp op t u v).run P w=.ok r w):(execOp a.eval o).run P w=.ok (.value r) w:=by
 unfold execOp;simp only[ho,hx,hy];simp[hg,hb,Result.andThen]
def bE0(p q:bJ):Bool:=p.lot==q.lot&&p.q==q.q
def bE1(p q:eJ):Bool:=p.other==q.other&&p.ratio.n==q.ratio.n&&p.ratio.d==q.ratio.d&&p.price.n==q.price.n&&p.price.d==q.price.d&&p.value.n==q.value.n&&p.value.d==q.value.d
theorem bNx(p q:bJ):bE0 p q=true↔p=q:=by
 cases p;cases q;simp[bE0]
theorem bNy(p q:eJ):bE1 p q=true↔p=q:=by
 obtain⟨a,⟨b,c⟩,⟨d,e⟩,⟨f,g⟩⟩:=p;obtain⟨a',⟨b',c'⟩,⟨d',e'⟩,⟨f',g'⟩⟩:=q;simp[bE1,and_assoc]
theorem bMj(o u:bJ)(W:World)(x y:Operand):(eqGuard .neq 83 x y (.agg o.cells.toArray) (.agg u.cells.toArray)).run prog W=.ok () W:=by
 unfold bJ.cells;simp[go_sem,eqGuard]
theorem bL6(o u:bJ)(W:World):(binOp .neq 83 (.agg o.cells.toArray) (.agg u.cells.toArray)).run prog W=.ok (.bool (!bE0 o u)) W:=by
 unfold bJ.cells bE0;simp[go_sem]
 (repeat' split) <;> simp_all
theorem bKo(o u:eJ)(W:World)(x y:Operand):(eqGuard .neq 55 x y (.agg o.cells.toArray) (.agg u.cells.toArray)).run prog W=.ok () W:=by
 unfold eJ.cells;simp[go_sem,eqGuard]
theorem bNp(o u:eJ)(W:World):(binOp .neq 55 (.agg o.cells.toArray) (.agg u.cells.toArray)).run prog W=.ok (.bool (!bE1 o u)) W:=by
 unfold eJ.cells bE1;simp[go_sem]
 (repeat' split) <;> simp_all
theorem bRe(o:bJ):(prog.info? 83).map (·.size)=some o.cells.toArray.size:=by
 have h:(prog.info? 83).map (·.size)=some 2:=by kernel_rfl
 rw[h];rfl
theorem bR2(o:eJ):(prog.info? 55).map (·.size)=some o.cells.toArray.size:=by
 have h:(prog.info? 55).map (·.size)=some 7:=by kernel_rfl
 rw[h];rfl
noncomputable def bOe:Array Oper:=(f53.body.bind (jE 6)).getD #[]
def bM0:List (Nat×Nat):=[(0,16),(1,17),(2,18),(3,19),(4,20),(5,21),(6,22),(7,23),(8,24)]
structure bMq where
 W0:World
 b:Nat
 off:Nat
 b2:Nat
 off2:Nat
 n:Nat
 c:Nat
 c2:Nat
 k:Nat
 opt:Array Value
 opt2:Array Value
 ne:Bool
def bMq.val(C:bMq)(_:Unit):Nat->Value
 |0=>.slice (some ⟨C.b,C.off,none⟩) C.n C.c
 |1=>.int .i64 (C.k:Int)
 |2=>.pointer (some ⟨C.b,C.off+C.k*2,none⟩)
 |3=>.agg C.opt
 |4=>.slice (some ⟨C.b2,C.off2,none⟩) C.n C.c2
 |5=>.int .i64 (C.k:Int)
 |6=>.pointer (some ⟨C.b2,C.off2+C.k*2,none⟩)
 |7=>.agg C.opt2
 |_=>.bool C.ne
def bMq.gg(C:bMq)(_:Unit)(_:Array Bool)(W:World):Prop:=Below C.W0.heap.size C.W0 W
structure bQj(C:bMq)(t0:Array Value):Prop where
 sz:t0.size=26
 t0':t0[0]?=some (.slice (some ⟨C.b,C.off,none⟩) C.n C.c)
 t1':t0[1]?=some (.slice (some ⟨C.b2,C.off2,none⟩) C.n C.c2)
 t5:t0[5]?=some (.int .i64 (C.k:Int))
 lt:C.k<C.n
 small:C.n<=1000000
 hb:C.b<C.W0.heap.size
 hb2:C.b2<C.W0.heap.size
 lo:∀j v,C.opt.toList[j]?=some v->C.W0.cell? ⟨C.b,C.off+C.k*2+j,none⟩=some v
 lo2:∀j v,C.opt2.toList[j]?=some v->C.W0.cell? ⟨C.b2,C.off2+C.k*2+j,none⟩=some v
 osz:(prog.info? 83).map (·.size)=some C.opt.size
 osz2:(prog.info? 83).map (·.size)=some C.opt2.size
 grd:∀W,(eqGuard .neq 83 (.tmp 19) (.tmp 23) (.agg C.opt) (.agg C.opt2)).run prog W=.ok () W
 neq:∀W,(binOp .neq 83 (.agg C.opt) (.agg C.opt2)).run prog W=.ok (.bool C.ne) W
section
variable {C:bMq}{t0:Array Value}{Q:Exit->Act->World->Prop}
theorem bLq(M:bQj C t0){a:Act}{w:World}(hdf:a.defers=[])(ht:a.tmps=t0)(hw:w.drewN 1=C.W0)
  (hQ:∀W,Below C.W0.heap.size C.W0 W->Q .normal { tmps:=iZ (C.val ()) bM0 t0,defers:=[] } W):(Code.region 6 bOe true).wp prog Q a w:=by
 have hsz:bOe.size=9:=by kernel_rfl
 refine eV (ds:=bM0) (val:=C.val) (G:=C.gg) (by kernel_rfl) (by kernel_rfl) (by decide) (fun p hp=>?_) (by kernel_rfl) ?_ (γ:=()) hdf ht (by rw[hw];exact Br _ _) (fun _ _ W _ hg=>hQ W hg)
 ·rw[M.sz];have:∀p,p∈bM0->p.2<26:=by decide
  exact this p hp
 ·intro γ l a w i H hr;cases γ;have hi:i<9:=by
   obtain⟨_,o,ho,_⟩:=mem_ready.1 hr;have:=(Ai.1 ho).1;rw[hsz] at this;exact this
  have t0':=H.low (s:=0) (by decide) M.t0';have t1':=H.low (s:=1) (by decide) M.t1';have t5:=H.low (s:=5) (by decide) M.t5;have hb:Below C.W0.heap.size C.W0 w:=H.g
  match i,hi,hr with
  |0,_,hr =>
   exact aWj (.move (.tmp 0)) (.slice (some ⟨C.b,C.off,none⟩) C.n C.c) (fun o h=>by simp[execOp,h,t0',go_sem]) hb
  |1,_,hr =>
   exact aWj (.move (.tmp 5)) (.int .i64 (C.k:Int)) (fun o h=>by simp[execOp,h,t5,go_sem]) hb
  |2,_,hr =>
   have v0:a.tmps[16]?=some (.slice (some ⟨C.b,C.off,none⟩) C.n C.c):=H.dep hr 0 16;have v1:a.tmps[17]?=some (.int .i64 (C.k:Int)):=H.dep hr 1 17;have hlt:=M.lt;have hsm:=M.small;exact aWj (.indexAddr 26 (.tmp 16) (.tmp 17)) (.pointer (some ⟨C.b,C.off+C.k*2,none⟩)) (fun o h=>by simp[execOp,h,v0,v1,hlt,go_sem]) hb
  |3,_,hr =>
   have v2:a.tmps[18]?=some (.pointer (some ⟨C.b,C.off+C.k*2,none⟩)):=H.dep hr 2 18;exact aWj (.load 83 (.tmp 18)) (.agg C.opt) (fun o h=>by exact aW h (ev' v2) (fun j v hj=>(hb.cell (p:=⟨C.b,C.off+C.k*2+j,none⟩) M.hb).trans (M.lo j v hj)) underlying83 rfl M.osz) hb
  |4,_,hr =>
   exact aWj (.move (.tmp 1)) (.slice (some ⟨C.b2,C.off2,none⟩) C.n C.c2) (fun o h=>by simp[execOp,h,t1',go_sem]) hb
  |5,_,hr =>
   exact aWj (.move (.tmp 5)) (.int .i64 (C.k:Int)) (fun o h=>by simp[execOp,h,t5,go_sem]) hb
  |6,_,hr =>
   have v4:a.tmps[20]?=some (.slice (some ⟨C.b2,C.off2,none⟩) C.n C.c2):=H.dep hr 4 20;have v5:a.tmps[21]?=some (.int .i64 (C.k:Int)):=H.dep hr 5 21;have hlt:=M.lt;have hsm:=M.small;exact aWj (.indexAddr 26 (.tmp 20) (.tmp 21)) (.pointer (some ⟨C.b2,C.off2+C.k*2,none⟩)) (fun o h=>by simp[execOp,h,v4,v5,hlt,go_sem]) hb
  |7,_,hr =>
   have v6:a.tmps[22]?=some (.pointer (some ⟨C.b2,C.off2+C.k*2,none⟩)):=H.dep hr 6 22;exact aWj (.load 83 (.tmp 22)) (.agg C.opt2) (fun o h=>by exact aW h (ev' v6) (fun j v hj=>(hb.cell (p:=⟨C.b2,C.off2+C.k*2+j,none⟩) M.hb2).trans (M.lo2 j v hj)) underlying83 rfl M.osz2) hb
  |8,_,hr =>
   have v3:a.tmps[19]?=some (.agg C.opt):=H.dep hr 3 19;have v7:a.tmps[23]?=some (.agg C.opt2):=H.dep hr 7 23;exact aWj (.binOp .neq 83 (.tmp 19) (.tmp 23) 83) (.bool C.ne) (fun o h=>by exact bJz h (ev' v3) (ev' v7) (M.grd w) (M.neq w)) hb
  |n+9,h,_=>exact absurd h (by omega)
end
theorem bPb(ps qs:List bJ)(a a2:Option Addr)(c c2:Nat)(w:World)(hn:ps.length<=1000000)(h1:gJ w a 2 (ps.map bJ.cells))(h2:gJ w a2 2 (qs.map bJ.cells)):
  Calls prog 53 #[.slice a ps.length c,.slice a2 qs.length c2] w fun e w'=>e=.returned (.bool (bEf bE0 ps qs))/\Below w.heap.size w w':=by
 have H1:=Hd h1;have H2:=Hd h2;clear h1 h2
 by_cases hne:ps.length=qs.length
 rotate_left
 ·have HF:Hid (bEf bE0 ps qs=false):=by
   show _=_;cases e:bEf bE0 ps qs with
   |false=>rfl
   |true=>exact absurd (bH9 e) hne
  clear H1 H2;rw[HF.out];have hd:decide ((ps.length:Int)=(qs.length:Int))=false:=by simpa using(by omega:¬ (ps.length:Int)=(qs.length:Int))
  go_enter func53,ntmps53;go_wp2_with fail;go_ret;exact⟨rfl,Br _ _⟩
 have HNE:=Hd hne;have HAL:Hid ((∀(j:Nat) x y,ps[j]?=some x->qs[j]?=some y->bE0 x y=true)->bEf bE0 ps qs=true):=fun h=>bIb hne h
 have HNO:Hid (∀(j:Nat) x y,ps[j]?=some x->qs[j]?=some y->bE0 x y=false->bEf bE0 ps qs=false):=fun j x y h1 h2 h=>bH8 h1 h2 h
 rw[<-hne];clear hne;generalize bEf bE0 ps qs=res at *;go_enter func53,ntmps53;go_wp2_with fail;go_loopw [13] (fun iv wr=>∃k:Nat,k<=ps.length/\iv=.int .i64 k/\Hid (∀(j:Nat) x y,j<k->ps[j]?=some x->qs[j]?=some y->bE0 x y=true)/\Hid (Below w.heap.size w wr)) (fun iv _=>ps.length-(intOf iv).toNat)
 case atStart=>exact⟨0,Nat.zero_le _,rfl,fun j x y h=>absurd h (Nat.not_lt_zero j),Br _ _⟩
 case round =>
  obtain⟨k,hk,rfl,HS,HB⟩:=hrel
  by_cases hlt:k<ps.length
  ·obtain⟨p,hp⟩:∃p,ps[k]?=some p:=⟨ps[k],Lg hlt⟩
   have hq':k<qs.length:=by rw[<-HNE.out];exact hlt
   obtain⟨q,hq⟩:∃q,qs[k]?=some q:=⟨qs[k],Lg hq'⟩
   clear hq';obtain⟨b,off,rfl,hbl,hc⟩:=H1.out.addr (k:=k) (cs:=p.cells) (by rw[List.getElem?_map,hp];rfl);obtain⟨b2,off2,rfl,hbl2,hc2⟩:=H2.out.addr (k:=k) (cs:=q.cells) (by rw[List.getElem?_map,hq];rfl);have HC:=Hd hc;have HC2:=Hd hc2;have HSK:Hid (bE0 p q=true->∀(j:Nat) x y,j<k+1->ps[j]?=some x->qs[j]?=some y->bE0 x y=true):=fun h j x y hj hx hy=>by
    by_cases e:j=k
    ·subst e;rw[hp] at hx;rw[hq] at hy;injection hx with hx;injection hy with hy;subst hx hy;exact h
    ·exact HS.out j x y (by omega) hx hy
   have HNK:Hid (bE0 p q=false->res=false):=fun h=>HNO.out k p q hp hq h
   clear hc hc2 hp hq HS;go_wp2_with fail;refine bLq (C:=⟨wr.drewN 1,b,off,b2,off2,ps.length,c,c2,k,p.cells.toArray,q.cells.toArray,!bE0 p q⟩) ⟨rfl,rfl,rfl,rfl,hlt,hn,Nat.lt_of_lt_of_le hbl HB.out.size,Nat.lt_of_lt_of_le hbl2 HB.out.size,fun j v hj=>(HB.out.cell (p:=⟨b,off+k*2+j,none⟩) hbl).trans (HC.out j v hj),fun j v hj=>(HB.out.cell (p:=⟨b2,off2+k*2+j,none⟩) hbl2).trans (HC2.out j v hj),bRe p,bRe q,fun W=>bMj p q W _ _,bL6 p q⟩ rfl rfl rfl ?_;intro w3 hb3;have HB3:=Hd (aA HB.out ((aD (Br wr.heap.size wr) 1).trans hb3));clear hb3 HC HC2;simp only[iZ,bM0,List.foldl,List.setIfInBounds_toArray,List.set_cons_zero,List.set_cons_succ,bMq.val];cases hbq:bE0 p q with
   |true =>
    have HSK2:=Hd (HSK.out hbq);clear HSK HNK hbq;go_wp2_with fail;go_roundw
    case rel=>exact⟨k+1,by omega,by go_num,HSK2,HB3⟩
    case measure=>simp[intOf];omega
   |false =>
    obtain rfl:=HNK.out hbq;clear HSK HNK hbq;go_wp2_with fail;go_ret;exact⟨rfl,HB3.out⟩
  ·obtain rfl:k=ps.length:=by omega
   obtain rfl:=HAL.out (fun j x y h1 h2=>HS.out j x y (Li.1 h1).1 h1 h2);clear HS HAL HNO;go_wp2_with fail;go_ret;exact⟨rfl,HB.out⟩
noncomputable def bOf:Array Oper:=(f54.body.bind (jE 6)).getD #[]
def bM1:List (Nat×Nat):=[(0,16),(1,17),(2,18),(3,19),(4,20),(5,21),(6,22),(7,23),(8,24)]
structure bMr where
 W0:World
 b:Nat
 off:Nat
 b2:Nat
 off2:Nat
 n:Nat
 c:Nat
 c2:Nat
 k:Nat
 opt:Array Value
 opt2:Array Value
 ne:Bool
def bMr.val(C:bMr)(_:Unit):Nat->Value
 |0=>.slice (some ⟨C.b,C.off,none⟩) C.n C.c
 |1=>.int .i64 (C.k:Int)
 |2=>.pointer (some ⟨C.b,C.off+C.k*7,none⟩)
 |3=>.agg C.opt
 |4=>.slice (some ⟨C.b2,C.off2,none⟩) C.n C.c2
 |5=>.int .i64 (C.k:Int)
 |6=>.pointer (some ⟨C.b2,C.off2+C.k*7,none⟩)
 |7=>.agg C.opt2
 |_=>.bool C.ne
def bMr.gg(C:bMr)(_:Unit)(_:Array Bool)(W:World):Prop:=Below C.W0.heap.size C.W0 W
structure bQk(C:bMr)(t0:Array Value):Prop where
 sz:t0.size=26
 t0':t0[0]?=some (.slice (some ⟨C.b,C.off,none⟩) C.n C.c)
 t1':t0[1]?=some (.slice (some ⟨C.b2,C.off2,none⟩) C.n C.c2)
 t5:t0[5]?=some (.int .i64 (C.k:Int))
 lt:C.k<C.n
 small:C.n<=1000000
 hb:C.b<C.W0.heap.size
 hb2:C.b2<C.W0.heap.size
 lo:∀j v,C.opt.toList[j]?=some v->C.W0.cell? ⟨C.b,C.off+C.k*7+j,none⟩=some v
 lo2:∀j v,C.opt2.toList[j]?=some v->C.W0.cell? ⟨C.b2,C.off2+C.k*7+j,none⟩=some v
 osz:(prog.info? 55).map (·.size)=some C.opt.size
 osz2:(prog.info? 55).map (·.size)=some C.opt2.size
 grd:∀W,(eqGuard .neq 55 (.tmp 19) (.tmp 23) (.agg C.opt) (.agg C.opt2)).run prog W=.ok () W
 neq:∀W,(binOp .neq 55 (.agg C.opt) (.agg C.opt2)).run prog W=.ok (.bool C.ne) W
section
variable {C:bMr}{t0:Array Value}{Q:Exit->Act->World->Prop}
theorem bLr(M:bQk C t0){a:Act}{w:World}(hdf:a.defers=[])(ht:a.tmps=t0)(hw:w.drewN 1=C.W0)
  (hQ:∀W,Below C.W0.heap.size C.W0 W->Q .normal { tmps:=iZ (C.val ()) bM1 t0,defers:=[] } W):(Code.region 6 bOf true).wp prog Q a w:=by
 have hsz:bOf.size=9:=by kernel_rfl
 refine eV (ds:=bM1) (val:=C.val) (G:=C.gg) (by kernel_rfl) (by kernel_rfl) (by decide) (fun p hp=>?_) (by kernel_rfl) ?_ (γ:=()) hdf ht (by rw[hw];exact Br _ _) (fun _ _ W _ hg=>hQ W hg)
 ·rw[M.sz];have:∀p,p∈bM1->p.2<26:=by decide
  exact this p hp
 ·intro γ l a w i H hr;cases γ;have hi:i<9:=by
   obtain⟨_,o,ho,_⟩:=mem_ready.1 hr;have:=(Ai.1 ho).1;rw[hsz] at this;exact this
  have t0':=H.low (s:=0) (by decide) M.t0';have t1':=H.low (s:=1) (by decide) M.t1';have t5:=H.low (s:=5) (by decide) M.t5;have hb:Below C.W0.heap.size C.W0 w:=H.g
  match i,hi,hr with
  |0,_,hr =>
   exact aWj (.move (.tmp 0)) (.slice (some ⟨C.b,C.off,none⟩) C.n C.c) (fun o h=>by simp[execOp,h,t0',go_sem]) hb
  |1,_,hr =>
   exact aWj (.move (.tmp 5)) (.int .i64 (C.k:Int)) (fun o h=>by simp[execOp,h,t5,go_sem]) hb
  |2,_,hr =>
   have v0:a.tmps[16]?=some (.slice (some ⟨C.b,C.off,none⟩) C.n C.c):=H.dep hr 0 16;have v1:a.tmps[17]?=some (.int .i64 (C.k:Int)):=H.dep hr 1 17;have hlt:=M.lt;have hsm:=M.small;exact aWj (.indexAddr 27 (.tmp 16) (.tmp 17)) (.pointer (some ⟨C.b,C.off+C.k*7,none⟩)) (fun o h=>by simp[execOp,h,v0,v1,hlt,go_sem]) hb
  |3,_,hr =>
   have v2:a.tmps[18]?=some (.pointer (some ⟨C.b,C.off+C.k*7,none⟩)):=H.dep hr 2 18;exact aWj (.load 55 (.tmp 18)) (.agg C.opt) (fun o h=>by exact aW h (ev' v2) (fun j v hj=>(hb.cell (p:=⟨C.b,C.off+C.k*7+j,none⟩) M.hb).trans (M.lo j v hj)) underlying55 rfl M.osz) hb
  |4,_,hr =>
   exact aWj (.move (.tmp 1)) (.slice (some ⟨C.b2,C.off2,none⟩) C.n C.c2) (fun o h=>by simp[execOp,h,t1',go_sem]) hb
  |5,_,hr =>
   exact aWj (.move (.tmp 5)) (.int .i64 (C.k:Int)) (fun o h=>by simp[execOp,h,t5,go_sem]) hb
  |6,_,hr =>
   have v4:a.tmps[20]?=some (.slice (some ⟨C.b2,C.off2,none⟩) C.n C.c2):=H.dep hr 4 20;have v5:a.tmps[21]?=some (.int .i64 (C.k:Int)):=H.dep hr 5 21;have hlt:=M.lt;have hsm:=M.small;exact aWj (.indexAddr 27 (.tmp 20) (.tmp 21)) (.pointer (some ⟨C.b2,C.off2+C.k*7,none⟩)) (fun o h=>by simp[execOp,h,v4,v5,hlt,go_sem]) hb
  |7,_,hr =>
   have v6:a.tmps[22]?=some (.pointer (some ⟨C.b2,C.off2+C.k*7,none⟩)):=H.dep hr 6 22;exact aWj (.load 55 (.tmp 22)) (.agg C.opt2) (fun o h=>by exact aW h (ev' v6) (fun j v hj=>(hb.cell (p:=⟨C.b2,C.off2+C.k*7+j,none⟩) M.hb2).trans (M.lo2 j v hj)) underlying55 rfl M.osz2) hb
  |8,_,hr =>
   have v3:a.tmps[19]?=some (.agg C.opt):=H.dep hr 3 19;have v7:a.tmps[23]?=some (.agg C.opt2):=H.dep hr 7 23;exact aWj (.binOp .neq 55 (.tmp 19) (.tmp 23) 55) (.bool C.ne) (fun o h=>by exact bJz h (ev' v3) (ev' v7) (M.grd w) (M.neq w)) hb
  |n+9,h,_=>exact absurd h (by omega)
end
theorem bPc(ps qs:List eJ)(a a2:Option Addr)(c c2:Nat)(w:World)(hn:ps.length<=1000000)(h1:gJ w a 7 (ps.map eJ.cells))(h2:gJ w a2 7 (qs.map eJ.cells)):
  Calls prog 54 #[.slice a ps.length c,.slice a2 qs.length c2] w fun e w'=>e=.returned (.bool (bEf bE1 ps qs))/\Below w.heap.size w w':=by
 have H1:=Hd h1;have H2:=Hd h2;clear h1 h2
 by_cases hne:ps.length=qs.length
 rotate_left
 ·have HF:Hid (bEf bE1 ps qs=false):=by
   show _=_;cases e:bEf bE1 ps qs with
   |false=>rfl
   |true=>exact absurd (bH9 e) hne
  clear H1 H2;rw[HF.out];have hd:decide ((ps.length:Int)=(qs.length:Int))=false:=by simpa using(by omega:¬ (ps.length:Int)=(qs.length:Int))
  go_enter func54,ntmps54;go_wp2_with fail;go_ret;exact⟨rfl,Br _ _⟩
 have HNE:=Hd hne;have HAL:Hid ((∀(j:Nat) x y,ps[j]?=some x->qs[j]?=some y->bE1 x y=true)->bEf bE1 ps qs=true):=fun h=>bIb hne h
 have HNO:Hid (∀(j:Nat) x y,ps[j]?=some x->qs[j]?=some y->bE1 x y=false->bEf bE1 ps qs=false):=fun j x y h1 h2 h=>bH8 h1 h2 h
 rw[<-hne];clear hne;generalize bEf bE1 ps qs=res at *;go_enter func54,ntmps54;go_wp2_with fail;go_loopw [13] (fun iv wr=>∃k:Nat,k<=ps.length/\iv=.int .i64 k/\Hid (∀(j:Nat) x y,j<k->ps[j]?=some x->qs[j]?=some y->bE1 x y=true)/\Hid (Below w.heap.size w wr)) (fun iv _=>ps.length-(intOf iv).toNat)
 case atStart=>exact⟨0,Nat.zero_le _,rfl,fun j x y h=>absurd h (Nat.not_lt_zero j),Br _ _⟩
 case round =>
  obtain⟨k,hk,rfl,HS,HB⟩:=hrel
  by_cases hlt:k<ps.length
  ·obtain⟨p,hp⟩:∃p,ps[k]?=some p:=⟨ps[k],Lg hlt⟩
   have hq':k<qs.length:=by rw[<-HNE.out];exact hlt
   obtain⟨q,hq⟩:∃q,qs[k]?=some q:=⟨qs[k],Lg hq'⟩
   clear hq';obtain⟨b,off,rfl,hbl,hc⟩:=H1.out.addr (k:=k) (cs:=p.cells) (by rw[List.getElem?_map,hp];rfl);obtain⟨b2,off2,rfl,hbl2,hc2⟩:=H2.out.addr (k:=k) (cs:=q.cells) (by rw[List.getElem?_map,hq];rfl);have HC:=Hd hc;have HC2:=Hd hc2;have HSK:Hid (bE1 p q=true->∀(j:Nat) x y,j<k+1->ps[j]?=some x->qs[j]?=some y->bE1 x y=true):=fun h j x y hj hx hy=>by
    by_cases e:j=k
    ·subst e;rw[hp] at hx;rw[hq] at hy;injection hx with hx;injection hy with hy;subst hx hy;exact h
    ·exact HS.out j x y (by omega) hx hy
   have HNK:Hid (bE1 p q=false->res=false):=fun h=>HNO.out k p q hp hq h
   clear hc hc2 hp hq HS;go_wp2_with fail;refine bLr (C:=⟨wr.drewN 1,b,off,b2,off2,ps.length,c,c2,k,p.cells.toArray,q.cells.toArray,!bE1 p q⟩) ⟨rfl,rfl,rfl,rfl,hlt,hn,Nat.lt_of_lt_of_le hbl HB.out.size,Nat.lt_of_lt_of_le hbl2 HB.out.size,fun j v hj=>(HB.out.cell (p:=⟨b,off+k*7+j,none⟩) hbl).trans (HC.out j v hj),fun j v hj=>(HB.out.cell (p:=⟨b2,off2+k*7+j,none⟩) hbl2).trans (HC2.out j v hj),bR2 p,bR2 q,fun W=>bKo p q W _ _,bNp p q⟩ rfl rfl rfl ?_;intro w3 hb3;have HB3:=Hd (aA HB.out ((aD (Br wr.heap.size wr) 1).trans hb3));clear hb3 HC HC2;simp only[iZ,bM1,List.foldl,List.setIfInBounds_toArray,List.set_cons_zero,List.set_cons_succ,bMr.val];cases hbq:bE1 p q with
   |true =>
    have HSK2:=Hd (HSK.out hbq);clear HSK HNK hbq;go_wp2_with fail;go_roundw
    case rel=>exact⟨k+1,by omega,by go_num,HSK2,HB3⟩
    case measure=>simp[intOf];omega
   |false =>
    obtain rfl:=HNK.out hbq;clear HSK HNK hbq;go_wp2_with fail;go_ret;exact⟨rfl,HB3.out⟩
  ·obtain rfl:k=ps.length:=by omega
   obtain rfl:=HAL.out (fun j x y h1 h2=>HS.out j x y (Li.1 h1).1 h1 h2);clear HS HAL HNO;go_wp2_with fail;go_ret;exact⟨rfl,HB.out⟩
def bI2(f g:aE):Bool:=yS f g (bEf bE0 f.picks g.picks) (bEf bE1 f.options g.options)
theorem bLs(f g:aE)(pa oa pb ob:Option Addr)(pc oc pd od:Nat)(w:World)(hb1:f.Behind w pa oa)(hb2:g.Behind w pb ob)(hp:f.picks.length<=1000000)(ho:f.options.length<=1000000):
  Calls prog 19 #[.agg (f.cells pa pc oa oc),.agg (g.cells pb pd ob od)] w fun e w'=>e=.returned (.bool (bI2 f g))/\Below w.heap.size w w' :=
 Ci f g pa oa pb ob pc oc pd od _ _ w (fun W hb=>bPb f.picks g.picks pa pb pc pd W hp (hb1.1.below hb) (hb2.1.below hb)) (fun W hb=>bPc f.options g.options oa ob oc od W ho (hb1.2.below hb) (hb2.2.below hb))
theorem bKw{f g:aE}:bI2 f g=true↔f=g:=by
 unfold bI2 yS;simp only[Bool.and_eq_true,bIa bNx,bIa bNy,beq_iff_eq];obtain⟨_,_,_,_,_,_,_,_,_,_,_,_,⟨_,_⟩,⟨_,_⟩,⟨_,_⟩,_,_,_⟩:=f;obtain⟨_,_,_,_,_,_,_,_,_,_,_,_,⟨_,_⟩,⟨_,_⟩,⟨_,_⟩,_,_,_⟩:=g;simp[and_assoc]
theorem bKd(f:aE):bI2 f f=true:=bKw.2 rfl
end
section
open Go Go.RowKit Num
theorem bIc(f:aE)(hf:f.lean13)(he:bY f=0)(hl:(enc f).length<=100000000)(pa oa:Option Addr)(pc oc:Nat)(w:World)(hE:iE w)(hcap:f.picks.length<=pc)(hB:f.Behind w pa oa):
  Calls prog 21 #[.agg (f.cells pa pc oa oc)] w fun e w'=>e=.returned (.tuple #[.string ⟨(enc f).toArray⟩,.int .i64 0])/\Below w.heap.size w w' :=
 bNz f hf pa oa pc oc w hE hB he hl (fun W hW=>rT f pa oa pc oc W (hE.below hW) hf.small hcap (hB.below hW))
theorem bNo{w:World}{base:Nat}{e:TypeId}{v:Value}{xs:List Value}(h:w.ownsRow base e 1 v xs.length xs):∃a c,v=.slice a xs.length c/\xs.length<=c/\dT w a xs:=by
 rcases h.2 with⟨rfl,h0⟩|⟨g,cap,cur,rfl,_,hg,hn,_,hc,ht⟩
 ·obtain rfl:xs=[]:=List.length_eq_zero_iff.1 h0;exact⟨none,0,rfl,Nl _,.inl rfl⟩
 ·refine⟨_,cap,rfl,hn,.inr ⟨g,0,rfl,(Ai.1 hg).1,fun k u hk=>?_⟩⟩;rw[Nat.zero_add];show (w.cell? ⟨g,k,none⟩)=some u;have hk2:cur[k]?=some u:=by
   rw[<-ht] at hk;rw[List.getElem?_take] at hk;split at hk
   ·rw[<-Array.getElem?_toList];exact hk
   ·cases hk
  simp[World.cell?,hg,hk2]
theorem bNh:exA.small:=⟨by decide,by decide,by decide,by decide,by decide,by decide,by decide,by decide,⟨by decide,by decide⟩,⟨by decide,by decide⟩,⟨by decide,by decide⟩,by decide,(fun p h=>by cases h),by decide,(fun o h=>by cases h)⟩
theorem bNg:exB.small:=⟨by decide,by decide,by decide,by decide,by decide,by decide,by decide,by decide,⟨by decide,by decide⟩,⟨by decide,by decide⟩,⟨by decide,by decide⟩,by decide,(fun p h=>by cases h),by decide,(fun o h=>by cases h)⟩
theorem bJx:exC.small:=⟨by decide,by decide,by decide,by decide,by decide,by decide,by decide,by decide,⟨by decide,by decide⟩,⟨by decide,by decide⟩,⟨by decide,by decide⟩,by decide,(fun p h=>by cases h),by decide,(fun o h=>by
 have h:o=bQf∨o=bQe:=by simpa[exC] using h
 rcases h with rfl|rfl <;> exact⟨by decide,⟨by decide,by decide⟩,⟨by decide,by decide⟩,⟨by decide,by decide⟩⟩)⟩
theorem bOm:exA.lean13:=⟨bNh,by decide,by decide,by decide,by decide⟩
theorem bOl:exB.lean13:=⟨bNg,by decide,by decide,by decide,by decide⟩
theorem bOk:exC.lean13:=⟨bJx,by decide,by decide,by decide,by decide⟩
theorem bOt:iL exC exA = -1:=by first|decide|decide +kernel
theorem bOs:bPk exC=[[97,98,99],[100,101,102]]:=by
 have h:bPi exC=[[97,98,99],[100,101,102]]:=by decide
 have h2:([[97,98,99],[100,101,102]]:List (List UInt8)).mergeSort (fun x y=>decide (x<=y))=[[97,98,99],[100,101,102]]:=List.mergeSort_of_pairwise (by decide);unfold bPk;rw[h,h2]
 first|decide|decide +kernel
theorem bOx(w:World)(hE:iE w):Calls prog 21 #[.agg (exA.cellsW bBy bBy)] w fun e w'=>e=.returned (.tuple #[.string ⟨#[98,49,32,55,32,50,48,50,52,45,48,49,45,51,49,32,98,117,121,32,97,98,99,32,49,48,32,49,48,48,48,32,53]⟩,.int .i64 0])/\Below w.heap.size w w':=by
 have h:=bIc exA bOm bMh (by rw[bNa];decide) none none 0 0 w hE (by decide) ⟨.inl rfl,.inl rfl⟩;rw[bNa] at h;exact h
theorem bOw(w:World)(hE:iE w):Calls prog 21 #[.agg X4C.B] w fun e w'=>e=.returned (.tuple #[.string ⟨#[98,49,32,57,32,118,111,105,100]⟩,.int .i64 0])/\Below w.heap.size w w':=by
 have h:=bIc exB bOl bMg (by rw[bM9];decide) none none 0 0 w hE (by decide) ⟨.inl rfl,.inl rfl⟩;rw[bM9] at h;exact h
theorem bOv(b:Nat)(w:World)(hE:iE w)(hB:exC.Behind w none (some ⟨b,0,none⟩)):Calls prog 21 #[.agg (bLf b)] w fun e w'=>e=.returned (.tuple #[.string ⟨#[120,49,32,56,32,50,48,50,52,45,48,49,45,51,49,32,101,120,99,104,97,110,103,101,32,97,98,99,32,100,101,102,58,51,47,50,58,53,58,52,48,44,45,58,48,58,55,48,58,48]⟩,.int .i64 0])/\Below w.heap.size w w':=by
 have h:=bIc exC bOk bHe (by rw[bKq];decide) none (some ⟨b,0,none⟩) 0 2 w hE (by decide) hB;rw[bKq] at h;exact h
theorem bMm(w:World)(hE:iE w)(hd:bEi (bDb 32 exZ)=some exC):Calls prog 23 #[.string ⟨exZ.toArray⟩] w (bGx exZ w) :=
 bMl exZ w hE (by decide) fun f hf pa pc oa oc W hW hB hcap=>by
  rw[hd] at hf;obtain rfl:=Option.some.inj hf;exact rT exC pa oa pc oc W hW bJx hcap hB
theorem bOu(w:World)(hE:iE w):Calls prog 23 #[.string ⟨#[120,49,32,56,32,50,48,50,52,45,48,49,45,51,49,32,101,120,99,104,97,110,103,101,32,97,98,99,32,100,101,102,58,51,47,50,58,53,58,52,48,44,45,58,48,58,55,48,58,48]⟩] w fun e w'=>(∃pa pc oa oc,e=.returned (.tuple #[.agg (exC.cells pa pc oa oc),.int .i64 0])/\exC.Behind w' pa oa)/\Below w.heap.size w w':=by
 have hd:bEi (bDb 32 exZ)=some exC:=by kernel_rfl
 refine(bMm w hE hd).mono ?_;rintro e w' ⟨pv,ov,he,hp,ho,hb⟩;rw[bPp] at he hp ho;obtain⟨pa,pc,oa,oc,hce,_,_,hbh⟩:=bHw hp ho;exact⟨⟨pa,pc,oa,oc,by rw[he];simp only[hce],hbh⟩,hb⟩
end
section
open Go Go.RowKit Num
theorem bS6(w:World):(Builtin.max_ #[32,32,32,32] 32 #[.int .i64 0,.int .i64 0,.int .i64 0,.int .i64 0]).run prog w=.ok (.int .i64 0) w:=by first|kernel_rfl|simp[go_sem]
attribute [local go_sem] bS6
theorem bSs(b:Nat):(bLf b).all (·.oneCell')=true:=by
 unfold bLf aE.cells;simp[Value.oneCell']
theorem bP6(b:Nat):(bLf b).size=21:=rfl
theorem bLi(w:World)(hE:iE w):Calls prog 11 #[] w fun e w'=>e=.returned (.bool true)/\Below w.heap.size w w':=by
 have HE:=Hd hE;have HSZ:Hid (∀c:Array Value,c.size=21->(prog.info? 29).map (·.size)=some c.size):=fun c=>bJy
 clear hE;go_enter func11,ntmps11;go_wp2_with fail;refine(bJs _).mono ?_;rintro e w1 ⟨⟨b,rfl,hbh⟩,hb⟩;have HBH:=Hd hbh;have HB:=Hd hb;have HZ:Hid (aP (((w1.alloc Z13).alloc Z13).alloc Z13) w1.heap.size (bDh.cellsW bBy bBy) 29/\aP (((w1.alloc Z13).alloc Z13).alloc Z13) (w1.heap.size+1) (bDh.cellsW bBy bBy) 29/\aP (((w1.alloc Z13).alloc Z13).alloc Z13) (w1.heap.size+1+1) (bDh.cellsW bBy bBy) 29/\Below w1.heap.size w1 (((w1.alloc Z13).alloc Z13).alloc Z13)):=by
  have h1:=bFz (w1.alloc Z13);have h2:=bFz ((w1.alloc Z13).alloc Z13);rw[World.size_alloc] at h1 h2;rw[World.size_alloc] at h2;exact⟨((bFz w1).below (aB _ _)).below (aB _ _),h1.below (aB _ _),h2,((aB _ _).trans ((aB _ _).mono (by rw[World.size_alloc];omega))).trans ((aB _ _).mono (by rw[World.size_alloc,World.size_alloc];omega))⟩
 unfold Z13 at HZ;clear hb hbh;go_wp2_with (first
  |(refine bC5 rfl 29 _ _ rfl w1.heap.size (exA.cellsW bBy bBy) rfl rfl HZ.out.1 (HSZ.out _ rfl) rfl (bD1 rfl rfl) ?_;intro w2 kx bx gr;have K1:=Hd kx;have B2:=Hd (HZ.out.2.2.2.trans (bx _ (Nl _)));have HZ2:=Hd (And.intro (HZ.out.2.1.kept gr (by omega)) (HZ.out.2.2.1.kept gr (by omega)));clear kx bx gr;clear HZ)
  |(refine bC5 rfl 29 _ _ rfl (w1.heap.size+1) X4C.B rfl rfl HZ2.out.1 (HSZ.out _ rfl) rfl (bD1 rfl rfl) ?_;intro w3 kx bx gr;have K2:=Hd kx;have K1b:=Hd (K1.out.kept gr (by omega));have B3:=Hd (B2.out.trans (bx w1.heap.size (by omega)));have HZ3:=Hd (HZ2.out.2.kept gr (by omega));clear kx bx gr;clear HZ2 K1 B2)
  |(refine bC5 rfl 29 _ _ rfl (w1.heap.size+1+1) (bLf b) rfl rfl HZ3.out (HSZ.out _ (bP6 b)) rfl (bSs b) ?_;intro w4 kx bx gr;have K3:=Hd kx;have K2b:=Hd (K2.out.kept gr (by omega));have K1c:=Hd (K1b.out.kept gr (by omega));have B4:=Hd (B3.out.trans (bx w1.heap.size (by omega)));clear kx bx gr;clear HZ3 K1b B3)
  |(refine wpList_load_row rfl 29 _ rfl w1.heap.size rfl 29 (exA.cellsW bBy bBy) (0,0) _ K1c.out.2 underlying29 rfl (HSZ.out _ rfl) ?_))
 have BW4:=Hd (HB.out.trans (B4.out.mono HB.out.size));have HBH4:=Hd (HBH.out.below B4.out);clear HB HBH B4;refine(bOx _ (HE.out.below BW4.out)).mono ?_;rintro e w5 ⟨rfl,hb⟩;have K1d:=Hd (K1c.out.below hb);have K2d:=Hd (K2b.out.below hb);have K3d:=Hd (K3.out.below hb);have HBH5:=Hd (HBH4.out.below hb);have BW5:=Hd (aA BW4.out hb);clear hb K1c K2b K3 HBH4 BW4;go_wp2_with (refine wpList_load_row rfl 29 _ rfl (w1.heap.size+1) rfl 29 X4C.B (0,0) _ K2d.out.2 underlying29 rfl (HSZ.out _ rfl) ?_);refine(bOw _ (HE.out.below BW5.out)).mono ?_;rintro e w6 ⟨rfl,hb⟩;have K1e:=Hd (K1d.out.below hb);have K3e:=Hd (K3d.out.below hb);have HBH6:=Hd (HBH5.out.below hb);have BW6:=Hd (aA BW5.out hb);clear hb K1d K2d K3d HBH5 BW5;go_wp2_with (refine wpList_load_row rfl 29 _ rfl (w1.heap.size+1+1) rfl 29 (bLf b) (0,0) _ K3e.out.2 underlying29 rfl (HSZ.out _ (bP6 b)) ?_);refine(bOv b _ (HE.out.below BW6.out) HBH6.out).mono ?_;rintro e w7 ⟨rfl,hb⟩;have K1f:=Hd (K1e.out.below hb);have K3f:=Hd (K3e.out.below hb);have HBH7:=Hd (HBH6.out.below hb);have BW7:=Hd (aA BW6.out hb);clear hb K1e K3e HBH6 BW6;go_wp2_with fail;refine(bOu _ (HE.out.below BW7.out)).mono ?_;rintro e w8 ⟨⟨pa,pc,oa,oc,rfl,hz⟩,hb⟩;have K1g:=Hd (K1f.out.below hb);have K3g:=Hd (K3f.out.below hb);have HBH8:=Hd (HBH7.out.below hb);have BW8:=Hd (aA BW7.out hb);have HBX:=Hd hz;have KZ:=Hd (bFz w8);have BZ:=Hd (aB w8 Z13);unfold Z13 at KZ BZ;have HCE:Hid ((exC.cells pa pc oa oc).size=21/\(exC.cells pa pc oa oc).all (·.oneCell')=true):=⟨rfl,by unfold aE.cells;simp[Value.oneCell']⟩
 have HSM:Hid (∀W,Below w8.heap.size w8 W->Calls prog 19 #[.agg (exC.cells pa pc oa oc),.agg (bLf b)] W fun e w'=>e=.returned (.bool true)/\Below W.heap.size W w'):=fun W hW=>by
  have h:=bLs exC exC pa oa none (some ⟨b,0,none⟩) pc oc 0 2 W (HBX.out.below hW) (HBH8.out.below hW) (by decide) (by decide);rw[bKd] at h;exact h
 have HCM:Hid (∀W,Calls prog 14 #[.agg (bLf b),.agg (exA.cellsW bBy bBy)] W fun e w'=>e=.returned (.int .i64 (-1))/\Below W.heap.size W w'):=fun W=>by
  have h:=El exC exA none (some ⟨b,0,none⟩) none none 0 2 0 0 W;rw[bOt] at h;exact h
 have HIN:Hid (∀W,Below w8.heap.size w8 W->Calls prog 17 #[.agg (bLf b)] W fun e w'=>(∃a c,e=.returned (.slice a 2 c)/\dT w' a (iS [[97,98,99],[100,101,102]]))/\Below W.heap.size W w'):=fun W hW=>by
  refine(bOo exC none (some ⟨b,0,none⟩) 0 2 W (HBH8.out.below hW) (by decide)).mono ?_;rintro e w' ⟨v,rfl,ho,hb⟩;rw[bOs] at ho;obtain⟨a,c,rfl,_,hr⟩:=bNo ho;exact⟨⟨a,c,rfl,hr⟩,hb⟩
 clear hb hz K1f K3f HBH7 BW7 HBX HBH8;generalize exC.cells pa pc oa oc=cz at *;go_wp2_with (first
  |(refine bC5 rfl 29 _ _ rfl w8.heap.size cz rfl rfl KZ.out (HSZ.out _ HCE.out.1) (by show _=_;rw[HCE.out.1];rfl) HCE.out.2 ?_;intro w9 kx bx gr;have K9:=Hd kx;have B9:=Hd (BZ.out.trans (bx _ (Nl _)));clear kx bx gr;clear KZ BZ;have K1h:=Hd (K1g.out.below B9.out);have K3h:=Hd (K3g.out.below B9.out))
  |(refine bFn (by rfl) 29 _ rfl w8.heap.size rfl 29 cz (0,0) _ K9.out.2 underlying29 rfl (HSZ.out _ HCE.out.1) ?_;simp only[pS])
  |(refine bFn (by rfl) 29 _ rfl (w1.heap.size+1+1) rfl 29 (bLf b) (0,0) _ K3h.out.2 underlying29 rfl (HSZ.out _ rfl) ?_;simp only[pS]))
 refine(HSM.out _ B9.out).mono ?_;rintro e w10 ⟨rfl,hb⟩;have K1i:=Hd (K1h.out.below hb);have K3i:=Hd (K3h.out.below hb);have B10:=Hd (B9.out.trans (hb.mono B9.out.size));clear hb K1h K3h B9 HSM K9;go_wp2_with (first
  |(refine bFn (by rfl) 29 _ rfl w1.heap.size rfl 29 (exA.cellsW bBy bBy) (0,0) _ K1i.out.2 underlying29 rfl (HSZ.out _ rfl) ?_;simp only[pS])
  |(refine bFn (by rfl) 29 _ rfl (w1.heap.size+1+1) rfl 29 (bLf b) (0,0) _ K3i.out.2 underlying29 rfl (HSZ.out _ (bP6 b)) ?_;simp only[pS]))
 refine(HCM.out _).mono ?_;rintro e w11 ⟨rfl,hb⟩;have K3j:=Hd (K3i.out.below hb);have B11:=Hd (B10.out.trans (hb.mono B10.out.size));clear hb K1i K3i B10 HCM;go_wp2_with (refine bFn (by rfl) 29 _ rfl (w1.heap.size+1+1) rfl 29 (bLf b) (0,0) _ K3j.out.2 underlying29 rfl (HSZ.out _ (bP6 b)) ?_;simp only[pS]);refine(HIN.out _ B11.out).mono ?_;rintro e w12 ⟨⟨ai,ci,rfl,hr⟩,hb⟩;have B12:=Hd (B11.out.trans (hb.mono B11.out.size));have hbn:=aB w12 (.cells #[.string ⟨#[97,98,99]⟩,.string ⟨#[100,101,102]⟩] 9);have HEQ:Hid (Calls prog 16 #[.slice ai 2 ci,.slice (some ⟨w12.heap.size,0,none⟩) 2 2] (w12.alloc (.cells #[.string ⟨#[97,98,99]⟩,.string ⟨#[100,101,102]⟩] 9)) fun e w'=>e=.returned (.bool true)/\Below w12.heap.size w12 w'):=by
  have hr2:dT (w12.alloc (.cells #[.string ⟨#[97,98,99]⟩,.string ⟨#[100,101,102]⟩] 9)) (some ⟨w12.heap.size,0,none⟩) (iS [[97,98,99],[100,101,102]]):=by
   have h:=aP.new0 w12 #[.string ⟨#[97,98,99]⟩,.string ⟨#[100,101,102]⟩] 9;refine .inr ⟨w12.heap.size,0,rfl,h.1,fun k u hk=>?_⟩;rw[Nat.zero_add];refine(h.cell k).trans ?_;rw[<-Array.getElem?_toList];exact hk
  refine(Ep [[97,98,99],[100,101,102]] [[97,98,99],[100,101,102]] ai (some ⟨w12.heap.size,0,none⟩) ci 2 _ (by decide) (by decide) (hr.below hbn) hr2).mono ?_;rintro e w' ⟨rfl,hb⟩;exact⟨rfl,hbn.trans (hb.mono (by rw[World.size_alloc];omega))⟩
 clear hb K3j B11 HIN hr hbn;go_wp2_with fail;refine HEQ.out.mono ?_;rintro e w13 ⟨rfl,hb⟩;have HBE:Hid (Below w.heap.size w w13):=by
  have h1:=BW8.out.trans (B12.out.mono BW8.out.size);exact h1.trans (hb.mono h1.size)
 clear hb HEQ B12;go_wp2_with fail;go_ret;exact⟨rfl,HBE.out⟩
end
end Go.Proofs.YthjekgfoidmagaaGreatDoor
