/- Pending RLists ListsAll ElectionListsLaw -/
import Derived.Test.YtbcebibkpfklnaaGreatDoorJMem
import Derived.Test.YtbcebibkpfklnaaGreatDoorJWhereA
import Derived.Test.YtbcebibkpfklnaaGreatDoorJMoreL
import Derived.Test.YtbcebibkpfklnaaGreatDoorJRViewA
import Derived.Test.YtbcebibkpfklnaaGreatDoorJElectionA
import Derived.Test.YtbcebibkpfklnaaGreatDoorJCountsP
import Derived.Test.YtbcebibkpfklnaaGreatDoorJOpen
import Derived.Test.YtbcebibkpfklnaaGreatDoorJRowF
set_option maxHeartbeats 16000000
set_option maxRecDepth 100000
namespace Go.Proofs.YtbcebibkpfklnaaGreatDoor
section
open Go Go.RowKit Go.Shelf Num
theorem aFy(d:Int)(w:World):
  Calls Tryz.prog 76 #[.int .i64 d] w fun e w'=>e=.returned (.bool (decide (-25567≤d∧d≤84005)))∧w=w':=by
 by_cases h0:-25567≤d <;> by_cases h1:d≤84005
 all_goals
  go_enter Tryz.func76,Tryz.ntmps76;go_wp2;go_ret;exact⟨dG (by simp;omega),rfl⟩
theorem aFf(d:Int)(w:World):
  Calls Tryz.prog 55 #[.int .i64 d] w fun e w'=>(∃wk:Int,e=.returned (.tuple #[.int .i64 wk,.int .i64 (if -25567≤d∧d≤84005 then 0 else 13)]))∧w=w':=by
 have HVD:=Hd (aFy d w)
 by_cases h:-25567≤d∧d≤84005
 ·rw[if_pos h];have hd:decide (-25567≤d∧d≤84005)=true:=by simpa using h
  rw[hd] at HVD;obtain⟨h1,h2⟩:=h;clear hd;go_enter Tryz.func55,Tryz.ntmps55;go_wp2_with fail;refine HVD.out.mono ?_;rintro e w1 ⟨rfl,rfl⟩;go_wp2;go_ret2;exact⟨⟨_,rfl⟩,rfl⟩
 ·rw[if_neg h];have hd:decide (-25567≤d∧d≤84005)=false:=by simpa using h
  rw[hd] at HVD;clear hd h;go_enter Tryz.func55,Tryz.ntmps55;go_wp2_with fail;refine HVD.out.mono ?_;rintro e w1 ⟨rfl,rfl⟩;go_wp2;go_ret2;exact⟨⟨_,rfl⟩,rfl⟩
def aEu(d:Int)(f:aE):Bool:=decide (d<f.day)&&decide (1<f.options.length)
def Pu(fs:List aE)(d:Int):List (List UInt8):=(fs.filter fun f=>decide (f.kind=10)&&aEu d f).map aE.key
def aEo(d:Int)(pre:List aF):List (List UInt8):=((pre.map aF.f).filter fun x=>aEu d x).map aE.key
theorem aGa(d:Int)(pre:List aF)(x:aF):aEo d (pre ++ [x])=if aEu d x.f=true then aEo d pre ++ [x.f.key] else aEo d pre:=by
 unfold aEo;rw[List.map_append,List.filter_append,List.map_append];cases h:aEu d x.f <;> simp[h]
theorem aGp(xs:List aF)(d:Int):aEo d (eF xs (fun y=>decide (y.kind=10)) 0)=Pu (xs.map aF.f) d:=by
 unfold aEo Pu;rw[mG];rw[List.filter_map,List.filter_map,List.filter_filter];congr 2;exact List.filter_congr fun x _=>by simp[Function.comp,Bool.and_comm]
theorem aGo(d:Int)(pre:List aF):(aEo d pre).length≤pre.length:=by
 unfold aEo;rw[List.length_map];exact Nat.le_trans (List.length_filter_le _ _) (by simp)
def aG4(sl sd wk:Value)(N o bl bi:Nat)(s9 s22:Value):Array Value:=#[sl,sd,undef,.pointer (some ⟨N,0,none⟩),.slice none 0 0,.int .i64 0,wk,.int .i64 0,.pointer (some ⟨o,0,none⟩),s9,sl,.int .i64 0,.bool false,.tuple #[wk,.int .i64 0],sd,.tuple #[wk,.int .i64 0],wk,.int .i64 0,.int .i64 0,.bool false,sl,.func (.func 74) #[] #[.pointer (some ⟨bl,0,none⟩),.pointer (some ⟨bi,0,none⟩)],s22,undef,undef,undef,undef,undef,undef,undef,undef,undef,undef,undef,undef,undef,undef,undef,undef]
attribute [local go_sem] Oper.semAt_some
theorem aF3(xs:List aF)(a:Option Addr)(c:Nat)(d:Int)(w:World)(hE:iE w)(hv:gT w a c xs)(hvc:dF (xs.map aF.f)=0)(hd:-25567≤d∧d≤84005):
  Calls Tryz.prog 26 #[.slice a xs.length c,.int .i64 d] w fun e w'=>(∃v,e=.returned (.tuple #[v,.int .i64 0])∧w'.ownsRow w.heap.size 9 1 v (Pu (xs.map aF.f) d).length (iS (Pu (xs.map aF.f) d)))∧Below w.heap.size w w':=by
 obtain⟨i0,hi,hz0,hz1,hz2⟩:=info_parts Ys;have HVC:Hid (∀W,Below w.heap.size w W→Calls Tryz.prog 38 #[.slice a xs.length c] W fun e w'=>e=.returned (.int .i64 0)∧Below W.heap.size W w'):=fun W hbw=>by have:=lC xs a c W (hE.below hbw) hv.len (hv.facts.below hbw) hv.ok;rw[hvc] at this;exact this
 have HWD:Hid (∀W,Calls Tryz.prog 55 #[.int .i64 d] W fun e w'=>(∃wk:Int,e=.returned (.tuple #[.int .i64 wk,.int .i64 0]))∧W=w'):=fun W=>by have:=aFf d W;rw[if_pos hd] at this;exact this
 have hn:=hv.len;have HR:=Hd hv.facts;have HINF:=Hd (And.intro hi (And.intro hz0 (And.intro hz1 hz2)));clear hE hv hvc hi hz0 hz1 hz2 hd;refine(callsIn_wide (n:=12)).1 ?_;refine callsIn_of_wp_marks Tryz.func26 rfl trivial ?_ rfl;simp only[Tryz.ntmps26,List.size_toArray,List.length_cons,List.length_nil,Nat.reduceAdd,Nat.reduceSub,Array.replicate_succ,Array.replicate_zero,List.push_toArray,List.append_toArray,List.nil_append,List.cons_append];have b1:=aB w (.cells #[.int .i64 d] 23);have KS:=Hd (aP.new0 w #[.int .i64 d] 23);have HB0:=Hd b1;have cS:=KS.out.cell 0;clear b1;gi_wp2_with fail;refine⟨trivial,(callsIn_wide.2 (HVC.out _ HB0.out)).mono ?_⟩;rintro e w0 ⟨rfl,hb0⟩;have KS:=Hd (KS.out.below hb0);have cS:=KS.out.cell 0;have HB0:=Hd (aA HB0.out hb0);have HLT0:Hid (w.heap.size<w0.heap.size):=by have:=hb0.size;rw[World.size_alloc] at this;exact this
 clear hb0 HVC;gi_wp2_with fail;refine⟨trivial,(callsIn_wide.2 (HWD.out _)).mono ?_⟩;rintro e w1 ⟨⟨wk,rfl⟩,rfl⟩;have KS:=Hd (KS.out.below (aB w0 (.cells #[.slice none 0 0] 45)));have KO:=Hd (aP.new0 w0 #[.slice none 0 0] 45);have HB1:=Hd (aA HB0.out (aB w0 (.cells #[.slice none 0 0] 45)));have cS:=KS.out.cell 0;have HSZ1:Hid ((w0.alloc (.cells #[.slice none 0 0] 45)).heap.size=w0.heap.size+1):=World.size_alloc _ _;clear HWD HB0;gi_wp2_with fail;refine⟨trivial,(callsIn_wide.2 (qZ _ _ _ _ _ _)).mono ?_⟩;rintro e w3 ⟨bl,bi,rfl,lbl,lbi,kbl,kbi,hb3⟩;have KS:=Hd (KS.out.below hb3);have KO:=Hd (KO.out.below hb3);have HB3:=Hd (aA HB1.out hb3);have HLT:=HLT0;have HW3:Hid (w0.heap.size+1≤w3.heap.size∧w0.heap.size+1≤bl∧w0.heap.size+1≤bi):=by have h1:=HSZ1.out;have h2:=hb3.size;show _∧_;omega
 have KBL:=Hd kbl;have KBI:=Hd kbi;clear lbl lbi kbl kbi hb3 HB1 HSZ1 cS HLT0;obtain⟨o,ho⟩:∃o,o=w0.heap.size:=⟨_,rfl⟩
 rw[←ho] at KO HW3 HLT ⊢;clear ho;obtain⟨P,hP⟩:∃P:Nat→Prop,P=fun k=>k<w3.heap.size∧k≠o:=⟨_,rfl⟩
 have HPP:Hid (∀k,P k↔k<w3.heap.size∧k≠o):=fun k=>by rw[hP]
 clear hP;have HBW:Hid (∀W,eK P w3 W→Below w.heap.size w W):=fun W hW=>HB3.out.trans (hW.below fun k hk=>(HPP.out k).2 ⟨by have:=HB3.out.size;omega,by have:=HLT.out;omega⟩)
 have hg:=nK 11 xs a c bl bi 48 #[] (fun y=>decide (y.kind=10)) P w3 hn (enters_of Tryz.func48 (by kernel_rfl) rfl) (fun k hk=>((HPP.out k).1 hk).1) (fun W hW=>by
  have h2:=HW3.out;exact⟨HR.out.below (HBW.out W hW),hW.box ((HPP.out bl).2 ⟨KBL.out.1,by omega⟩) KBL.out,hW.box ((HPP.out bi).2 ⟨KBI.out.1,by omega⟩) KBI.out,fun x _ W' _=>Em x W'⟩)
 have HG:=Hd hg;clear hg KBL KBI;gi_wp2_with fail;refine wpIn_rangeFunc_ownH (F:=Fence.wide) rfl (by decide) (gf:=74) (lb:=#[.pointer (some ⟨bl,0,none⟩),.pointer (some ⟨bi,0,none⟩)]) rfl trivial (enters_of Tryz.func74 (by kernel_rfl) rfl) HG.out
  (fun h k=>h.trans k) (fun W l o' o'' hl _ _ _=>eK.putObj W l o'' fun hp=>absurd ((HPP.out l).1 hp).1 (by omega)) (Br _ _) (fun _=>rfl)
  (fun pre W=>(∃v,Boxed W o 45 v∧W.ownsRow w3.heap.size 9 1 v (aEo d pre).length (iS (aEo d pre))∧True)∧(eK P w3 W∧w3.heap.size≤W.heap.size))
  (fun _ _ _=>False)
  (OwnFrom.and (Own.from (holdsRow_own w3.heap.size o 45 9 1 (fun pre=>(aEo d pre).length) (fun pre=>iS (aEo d pre)) (fun _ _=>True)) _) (OwnFrom.and (tI (fun k hk=>⟨((HPP.out k).1 hk).1,((HPP.out k).1 hk).1⟩)) (fun _ A B row hs hg _=>Nat.le_trans hs hg.size)))
  (fun _ _ _ _ _ hs _ _=>hs)
  ⟨⟨_,aP.boxed KO.out,World.ownsRow_nil _ _ _ _,trivial⟩,eK.refl _ _,Nl _⟩
  (fun x a' W=>∃Bx,w3.heap.size≤Bx∧aP W Bx x.arr 30∧a' = { tmps:=aG4 (.slice a xs.length c) (.int .i64 d) (.int .i64 wk) w.heap.size o bl bi (.pointer (some ⟨Bx,0,none⟩)) (.agg x.arr),defers:=[] })
  (fun x a' _ A B row hs hg hr=>by obtain⟨Bx,h1,h2,h3⟩:=hs;exact⟨Bx,h1,nP Bx _ (fun (_:Unit)=>x.arr) () A B row h2 hg (fun r e=>(hr r e).2),h3⟩)
  ?assign ?body ?done ?stop
 case assign =>
  rintro l pre x W K ⟨⟨v,hvb,hvr,_⟩,hk,hsz⟩ hK;have HN:=Hd (heap_alloc_new W (.cells eS 30));have HBA:=Hd (aB W (.cells eS 30));have HKA:=Hd (KeepsOthers.alloc W (.cells eS 30));have HSX:Hid ((Tryz.prog.info? 30).map (·.size)=some x.arr.size):=aY x.f x.pa x.oa x.pc x.oc;have HS21:Hid (eS.size=x.arr.size):=rfl;have HONE:=Hd (dV x);have HKK:=Hd hK;have HVB:=Hd hvb;have HVR:=Hd hvr;have HKP:=Hd hk;unfold Lu;clear hvb hvr hk hK;gi_wp2_with (refine bQ (by rfl) 30 _ _ rfl W.heap.size rfl x.arr rfl HN.out HSX.out HS21.out HONE.out ?_;intro w4 kx bx ko kot _);have hb4:=HBA.out.trans (bx _ (Nl _));have hk4:eK P W w4:=eK.of_below hb4 (fun k hk=>Nat.lt_of_lt_of_le ((HPP.out k).1 hk).1 hsz);have hgr4:=gZ hb4;exact HKK.out _ _ ((HKA.out.trans ko).from _) hk4 ⟨⟨v,HVB.out.kept hgr4 (by simp),HVR.out.kept hgr4 (by cases h:v.ownBlock <;> simp),trivial⟩,HKP.out.trans hk4,Nat.le_trans hsz hb4.size⟩ ⟨W.heap.size,hsz,kx,rfl⟩
 case body =>
  rintro l pre x a' W hl ⟨r,hr⟩ ⟨⟨v,hvb,hvr,_⟩,hkp,hsz⟩ ⟨Bx,hBx,kX,rfl⟩ hlt;unfold aG4;have hNP:P w.heap.size:=(HPP.out _).2 ⟨by have:=HLT.out;have:=HW3.out;omega,by have:=HLT.out;omega⟩;have cS:=(hkp.box hNP KS.out).cell 0;have HKP:=Hd hkp;have HVB:=Hd hvb;have HVR:=Hd hvr;have x3:=(kX.cell 3).trans (show _=some (.int .i64 x.f.day) from rfl);have x19:=(kX.cell 19).trans (show _=some (.slice x.oa x.f.options.length x.oc) from rfl);have x0:=(kX.cell 0).trans (show _=some (.string ⟨x.f.key.toArray⟩) from rfl);have HSN:=Hd (aGa d pre x);have hll:(aEo d pre).length+1≤1000000:=by have:=aGo d pre;omega
  have HPN:Hid (aEu d x.f=(decide (d<x.f.day)&&decide (1<x.f.options.length))):=rfl;clear hkp hvb hvr kX hr;generalize aEu d x.f=pn at *;generalize x.f.day=xd at *;generalize x.f.options.length=ol at *;generalize x.f.key=xk at *
  by_cases h1:d<xd
  ·by_cases h2:1<ol
   ·have HV:Hid (pn=true):=by show _=_;rw[HPN.out];simp[h1,h2]
    have h2':(1:Int)<(ol:Int):=by omega
    rw[HV.out,if_pos rfl] at HSN;have cO:=HVB.out.cell;clear HPN h2;gi_wp2_with (gi_at_builtin;refine wpListIn_append_own _ rfl _ _ 45 rfl w3.heap.size 9 i0 (.string ⟨#[]⟩) 1 16 Tryz.underlying45 HINF.out.1 HINF.out.2.1 HINF.out.2.2.1 HINF.out.2.2.2 rfl (by decide) _ _ _ rfl (HVR.out.alloc _) ⟨W.heap.size,0,none⟩ 1 1 [.string ⟨xk.toArray⟩] rfl rfl (cell_one_new _ _ _) (by simp[Value.oneCell']) (by unfold maxLen;omega) (by omega) (by simp;omega) ?_;intro v' w1 hown' hgrow _;obtain⟨g',cap',rfl⟩:=ownsRow_succ hown';obtain⟨hv1,hv2,hr2,hk2,hb2⟩:=Dc HVB.out (by decide) HVR.out hsz (fun j hj=>(HPP.out j).1 hj) hown' hgrow;have hc1:=hv1.cell;have hf1:=hv1.frozen;have HE1:=Hd hv2;have HE2:=Hd hr2;have HE3:=Hd hk2;have HE4:=Hd hb2;clear hv2 hr2 hk2 hb2 hown' hgrow);exact⟨HE3.out.from _,HE4.out,⟨_,HE1.out,by rw[HSN.out];simpa[iS] using HE2.out,trivial⟩,HKP.out.trans HE4.out,Nat.le_trans hsz HE4.out.size⟩
   ·have HV:Hid (pn=false):=by show _=_;rw[HPN.out];simp[h2]
    have h2':¬ (1:Int)<(ol:Int):=by omega
    rw[HV.out,if_neg (by decide)] at HSN;clear HPN h2;gi_wp2_with fail;exact⟨(KeepsOthers.refl _).from _,eK.refl _ _,⟨v,HVB.out,by rw[HSN.out];first|exact⟨HVR.out,trivial⟩|exact HVR.out⟩,HKP.out,hsz⟩
  ·have HV:Hid (pn=false):=by show _=_;rw[HPN.out];simp[h1]
   rw[HV.out,if_neg (by decide)] at HSN;clear HPN;gi_wp2_with fail;exact⟨(KeepsOthers.refl _).from _,eK.refl _ _,⟨v,HVB.out,by rw[HSN.out];first|exact⟨HVR.out,trivial⟩|exact HVR.out⟩,HKP.out,hsz⟩
 case done =>
  rintro D ys W hD rfl ⟨⟨v,hvb,hvr,_⟩,hk,hsz⟩ hK;have cO:=hvb.cell;have HB:=Hd (HBW.out W hk);have HK:=Hd hK;have HVR:=Hd hvr;have HHD:=Hd hD;clear hvb hvr hk hK hD;gi_wp2;refine⟨by simp,.inl ⟨_,_,rfl,run_takeDeferred HK.out,?_⟩⟩;refine⟨_,results_tmp2 rfl _ _ _,⟨v,rfl,?_⟩,HB.out.trans (belowK_b (w:=w) (Nl _) W D _ _ (by have:=HB3.out.size;have:=HHD.out;omega) HK.out rfl rfl)⟩;rw[←aGp xs d];exact Ck (ownsRow_putObj HVR.out _ HK.out rfl) HB3.out.size
 case stop =>
  rintro D c pre W _ _ h _;exact h.elim
theorem aF4(xs:List aF)(a:Option Addr)(c:Nat)(d:Int)(w:World)(hE:iE w)(hv:gT w a c xs)(hvc:dF (xs.map aF.f)≠0):
  Calls Tryz.prog 26 #[.slice a xs.length c,.int .i64 d] w fun e w'=>e=.returned (.tuple #[.slice none 0 0,.int .i64 1])∧Below w.heap.size w w':=by
 have HVC:Hid (∀W,Below w.heap.size w W→Calls Tryz.prog 38 #[.slice a xs.length c] W fun e w'=>e=.returned (.int .i64 (dF (xs.map aF.f)))∧Below W.heap.size W w'):=fun W hbw=>lC xs a c W (hE.below hbw) hv.len (hv.facts.below hbw) hv.ok
 have HB0:=Hd (aB w (.cells #[.int .i64 d] 23));clear hE hv;generalize dF (xs.map aF.f)=ve at *;have hv':(ve==0)=false:=by simpa using hvc
 go_enter Tryz.func26,Tryz.ntmps26;go_wp2_with fail;refine(HVC.out _ HB0.out).mono ?_;rintro e w1 ⟨rfl,hb⟩;have HB1:=Hd (aA HB0.out hb);clear hb;go_wp2_with fail;go_ret2;exact⟨rfl,HB1.out⟩
theorem aFs(xs:List aF)(a:Option Addr)(c:Nat)(d:Int)(w:World)(hE:iE w)(hv:gT w a c xs)(hvc:dF (xs.map aF.f)=0)(hd:¬ (-25567≤d∧d≤84005)):
  Calls Tryz.prog 26 #[.slice a xs.length c,.int .i64 d] w fun e w'=>e=.returned (.tuple #[.slice none 0 0,.int .i64 13])∧Below w.heap.size w w':=by
 have HVC:Hid (∀W,Below w.heap.size w W→Calls Tryz.prog 38 #[.slice a xs.length c] W fun e w'=>e=.returned (.int .i64 0)∧Below W.heap.size W w'):=fun W hbw=>by have:=lC xs a c W (hE.below hbw) hv.len (hv.facts.below hbw) hv.ok;rw[hvc] at this;exact this
 have HWD:Hid (∀W,Calls Tryz.prog 55 #[.int .i64 d] W fun e w'=>(∃wk:Int,e=.returned (.tuple #[.int .i64 wk,.int .i64 13]))∧W=w'):=fun W=>by have:=aFf d W;rw[if_neg hd] at this;exact this
 have KS:=Hd (aP.new0 w #[.int .i64 d] 23);have HB0:=Hd (aB w (.cells #[.int .i64 d] 23));clear hE hv hvc hd;generalize xs.length=n at *;go_enter Tryz.func26,Tryz.ntmps26;go_wp2_with fail;refine(HVC.out _ HB0.out).mono ?_;rintro e w1 ⟨rfl,hb⟩;have HB1:=Hd (aA HB0.out hb);have cS:=(KS.out.below hb).cell 0;clear hb;go_wp2_with fail;refine(HWD.out _).mono ?_;rintro e w2 ⟨⟨wk,rfl⟩,rfl⟩;go_wp2_with fail;go_ret2;exact⟨rfl,HB1.out⟩
end
section
open Go Go.RowKit Num
theorem aF8{xs:List aF}{k:Nat}{x:aF}(hx:xs[k]?=some x)(p:aF→Bool):(xs.take (k+1)).filter p=if p x=true then(xs.take k).filter p ++ [x] else(xs.take k).filter p:=by
 rw[List.take_add_one,hx,List.filter_append];cases h:p x <;> simp[h]
theorem aGj(xs:List aF)(k:Nat)(p:aF→Bool):((xs.take k).filter p).length≤k:=Nat.le_trans (List.length_filter_le _ _) (by rw[List.length_take];exact Nat.min_le_left _ _)
theorem aFp(xs:List aF)(a:Option Addr)(c:Nat)(key:List UInt8)(w:World)(hv:rJ w a c xs)(hvc:dF (xs.map aF.f)=0)(hkl:key.length≤1000)(hkn:dC key=true):
  Calls Tryz.prog 24 #[.slice a xs.length c,.string ⟨key.toArray⟩] w fun e w'=>(∃v,e=.returned (.tuple #[v,.int .i64 0])∧w'.ownsRow w.heap.size 30 21 v (eF xs (lR key) 0).length (pX (eF xs (lR key) 0)))∧Below w.heap.size w w':=by
 obtain⟨i0,hi,hz0,hz1,hz2⟩:=info_parts Ul;have HC:Hid (Calls Tryz.prog 30 #[.slice a xs.length c] w fun e w'=>e=.returned (.int .i64 0)∧Below w.heap.size w w'):=by
  have h:=Fp xs a c w hv.len hv.cap hv.facts hv.tight;rw[hvc] at h;exact h
 have HNM:Hid (∀W,Calls Tryz.prog 52 #[.string ⟨key.toArray⟩] W fun e w'=>e=.returned (.bool true)∧W=w'):=fun W=>by have:=mL key W (by omega);rw[hkn] at this;exact this
 have hlen:=hv.len;have HL:=Hd hv.facts;have HFIN:Hid (eF xs (lR key) 0=(xs.take xs.length).filter fun x=>lR key x.f):=by show _=_;rw[mG,List.take_length]
 have HINF:=Hd (And.intro hi (And.intro hz0 (And.intro hz1 hz2)));rw[HFIN.out];clear hv hvc hkn hi hz0 hz1 hz2 HFIN;go_enter Tryz.func24,Tryz.ntmps24;go_wp2_with fail;refine HC.out.mono ?_;rintro e w1 ⟨rfl,hb⟩;have HB:=Hd hb;clear hb HC;go_wp2_with fail;refine(HNM.out _).mono ?_;rintro e w2 ⟨rfl,rfl⟩;clear HNM;go_wp2_with fail;go_loopw [6,7] (fun ov iv wr=>∃k:Nat,k≤xs.length∧iv=.int .i64 k∧Hid (wr.ownsRow w.heap.size 30 21 ov ((xs.take k).filter fun x=>lR key x.f).length (pX ((xs.take k).filter fun x=>lR key x.f)))∧Hid (Below w.heap.size w wr)) (fun _ iv _=>xs.length-(intOf iv).toNat)
 case atStart=>exact⟨0,Nat.zero_le _,rfl,World.ownsRow_nil _ _ _ _,HB⟩
 case round =>
  clear HB;obtain⟨k,hk,rfl,HO,HB⟩:=hrel
  by_cases hlt:k<xs.length
  ·obtain⟨x,hx⟩:∃x,xs[k]?=some x:=⟨xs[k],Lg hlt⟩
   obtain⟨b,off,rfl,hbl,hc⟩:=HL.out.1.addr (k:=k) (cs:=x.cells) (by rw[List.getElem?_map,hx];rfl);have HCX:Hid (∀j v,x.arr.toList[j]?=some v→wr.cell? ⟨b,off+k*21+j,none⟩=some v):=fun j v hv=>(HB.out.cell (p:=⟨b,off+k*21+j,none⟩) hbl).trans (hc j v hv)
   have HSX:Hid ((Tryz.prog.info? 30).map (·.size)=some x.arr.size):=aY x.f x.pa x.oa x.pc x.oc;have HRUN:=Hd (tF x.arr rfl wr);have HNC:=Hd (Qf (heap_alloc_new wr (.cells x.arr 30)));have HONE:Hid (∀u∈x.arr.toList,u.oneCell'=true):=fun u hu=>(Array.all_eq_true_iff_forall_mem.1 (dV x)) u (by simpa using hu)
   have HLN:Hid (x.arr.toList.length=1*21):=rfl;have x4:=HCX.out 4 _ (show x.arr.toList[4]?=some (.int .i64 x.f.kind) from rfl);have x8:=HCX.out 8 _ (show x.arr.toList[8]?=some (.string ⟨x.f.target.toArray⟩) from rfl);have HK:=Hd (aF8 hx fun x=>lR key x.f);have hfl:=aGj xs k fun x=>lR key x.f
   have HSZ:=Hd HB.out.size;have HFK:Hid (lR key x.f=(decide (x.f.kind=11)&&(x.f.target==key))):=rfl;obtain⟨s',hs'⟩:∃s',s'=(xs.take (k+1)).filter fun x=>lR key x.f:=⟨_,rfl⟩
   rw[←hs'] at HK;have HS':=Hd hs';clear hs' hc hx;generalize(xs.take k).filter (fun x=>lR key x.f)=s at *;have HFA:Hid (pX (s ++ [x])=pX s++x.arr.toList):=by show _=_;rw[Ei,Qy]
   generalize lR key x.f=hit at *;generalize x.f.kind=kd at *;generalize x.f.target=tg at *
   by_cases h1:kd=11
   ·subst h1;cases h2:(tg==key) with
    |true =>
     have HV:Hid (hit=true):=by show _=_;rw[HFK.out,h2];rfl
     have HK2:Hid (s'=s ++ [x]):=by have h:=HK.out;rw[if_pos HV.out] at h;exact h
     clear HK HFK;go_wp2_with (first|(refine aM rfl 30 _ rfl b (off+k*21) rfl x.arr _ HCX.out Tryz.underlying30 rfl HSX.out ?_;simp only[pS])|(refine lA rfl 22 1 _ rfl #[(0,.agg x.arr)] _ (by simp[Act.eval]) HRUN.out ?_;simp only[pS])|(at_builtin;refine wpList_append_own_at _ rfl _ _ 22 rfl w.heap.size 30 i0 aAh 21 312 Tryz.underlying22 HINF.out.1 HINF.out.2.1 HINF.out.2.2.1 HINF.out.2.2.2 rfl (by decide) _ _ _ rfl (HO.out.alloc _) ⟨wr.heap.size,0,none⟩ 1 1 x.arr.toList rfl HLN.out HNC.out HONE.out (by unfold maxLen;omega) (by omega) (by have:=HSZ.out;simp;omega) ?_));intro v' w3 hown' hgrow _ _;have HB3:=Hd (Ut (HO.out.alloc (.cells x.arr 30)) hgrow (aA HB.out (aB _ _)) (by have:=HSZ.out;simp;omega));have HO3:Hid (w3.ownsRow w.heap.size 30 21 v' s'.length (pX s')):=by
      show World.ownsRow _ _ _ _ _ _ _;rw[HK2.out,HFA.out,List.length_append];simpa using hown'
     clear hgrow hown';go_wp2;go_roundw
     case rel=>exact⟨k+1,by omega,by go_num,(by rw[←HS'.out];exact HO3),HB3⟩
     case measure=>simp[intOf];omega
    |false =>
     have HV:Hid (hit=false):=by show _=_;rw[HFK.out,h2];rfl
     have HK2:Hid (s'=s):=by have h:=HK.out;rw[if_neg (by rw[HV.out];decide)] at h;exact h
     clear HK HFK;go_wp2;go_roundw
     case rel=>exact⟨k+1,by omega,by go_num,(by rw[←HS'.out,HK2.out];exact HO),HB⟩
     case measure=>simp[intOf];omega
   ·have h1':(kd==11)=false:=by simpa using h1
    have HV:Hid (hit=false):=by show _=_;rw[HFK.out];simp[h1]
    have HK2:Hid (s'=s):=by have h:=HK.out;rw[if_neg (by rw[HV.out];decide)] at h;exact h
    clear HK HFK;go_wp2;go_roundw
    case rel=>exact⟨k+1,by omega,by go_num,(by rw[←HS'.out,HK2.out];exact HO),HB⟩
    case measure=>simp[intOf];omega
  ·obtain rfl:k=xs.length:=by omega
   go_wp2;go_ret2;exact⟨⟨_,rfl,HO.out⟩,HB.out⟩
theorem aFg{P:Program}{ops:Array Oper}{rest:List Oper}{o:Oper}{a:Act}{w:World}{Q:Exit→Act→World→Prop}(hw:Region.wanted o (yielded ops a.tmps)=true)(ty:TypeId)(x:Operand)(ho:o.op=.load ty x)
  (b off:Nat) (hx:a.eval x=.pointer (some ⟨b,off,none⟩)) (cs:Array Value) (d:TypeDesc) (hc:∀j v,cs.toList[j]?=some v→w.cell? ⟨b,off+j,none⟩=some v)
  (hu:P.underlying ty=some d) (hd:(match d with | .struct _ | .array _ _=>true|_=>false)=true) (hi:(P.info? ty).map (·.size)=some cs.size)
  (h:wpList P ops Q rest (a.put o.dst (.agg cs)) w):wpList P ops Q (o::rest) a w:=by
 refine wpList_step fun K hK=>?_
 rw[if_pos hw];unfold Oper.wp execOp;simp only[ho,hx,Instr.loadAt,Instr.sureAddr,Sem.run_bind,Sem.run_pure,Result.andThen_ok,jD w b off ty cs d hc hu hd hi];exact hK _ _ h
def aAc(fs:List aE)(k:Nat):List (List UInt8):=((fs.take k).filter fun x=>decide (x.kind=11) && !pJ fs x).map aE.key
theorem aF7{fs:List aE}{k:Nat}{x:aE}(hx:fs[k]?=some x):aAc fs (k+1)=if(decide (x.kind=11) && !pJ fs x)=true then aAc fs k ++ [x.key] else aAc fs k:=by
 unfold aAc;rw[List.take_add_one,hx,List.filter_append,List.map_append];cases h:(decide (x.kind=11) && !pJ fs x) <;> simp[h]
theorem aGg(fs:List aE)(k:Nat):(aAc fs k).length≤k:=by
 unfold aAc;rw[List.length_map];exact Nat.le_trans (List.length_filter_le _ _) (by rw[List.length_take];exact Nat.min_le_left _ _)
theorem aGh(fs:List aE):aAc fs fs.length=dZ fs:=by unfold aAc;rw[List.take_length];rfl
theorem aGl{fs:List aE}(hv:dF fs=0){x:aE}(hx:x∈fs)(h:lT fs x.target=none):pJ fs x=false:=by
 cases hc:pJ fs x with
 |false=>rfl
 |true =>
  obtain⟨f,hf,_,hl⟩:=aDy hv hx hc;obtain⟨k,hk⟩:=List.getElem?_of_mem hf;rw[(Qp (Bm hl).2).2,aDr (oW.1 hv).2.2.1 hk] at h;cases h
theorem aFk{fs:List aE}(hv:dF fs=0){x f:aE}{k:Nat}(hx:x∈fs)(h:lT fs x.target=some k)(hf:fs[k]?=some f)(hc:pJ fs x=true):f.kind=10∧bL fs f=some x:=by
 obtain⟨g,hg,hk,hl⟩:=aDy hv hx hc;obtain⟨j,hj⟩:=List.getElem?_of_mem hg;rw[(Qp (Bm hl).2).2,aDr (oW.1 hv).2.2.1 hj] at h;injection h with h
 subst h;rw[hf] at hj;injection hj with hj
 subst hj;exact⟨hk,hl⟩
theorem aGv{fs:List aE}(hv:dF fs=0){x f:aE}{i k:Nat}{n:Int}(hx:fs[i]?=some x)(h:lT fs x.target=some k)(hf:fs[k]?=some f)(hk:f.kind=10)(hn:uM fs f n):(n==(i:Int))=pJ fs x:=by
 have hxm:=List.mem_of_getElem? hx;rcases hn with⟨rfl,hl⟩|⟨j,y,rfl,hy,_,hl⟩
 ·cases hc:pJ fs x with
  |false=>simp
  |true=>have:=(aFk hv hxm h hf hc).2;rw[hl] at this;cases this
 ·cases hc:pJ fs x with
  |true =>
   have:=(aFk hv hxm h hf hc).2;rw[hl] at this;injection this with this
   subst this;have:=aGi hv hy hx rfl;subst this;simp
  |false =>
   have hne:j≠i:=by
    rintro rfl;rw[hx] at hy;injection hy with hy
    subst hy;have:pJ fs x=true:=List.any_eq_true.2 ⟨f,List.mem_of_getElem? hf,by rw[hl];simp[hk]⟩;rw[this] at hc;cases hc
   simpa using(show ¬ (j:Int)=(i:Int) by omega)
theorem aGw(xs:List aF)(a:Option Addr)(c:Nat)(w:World)(hv:rJ w a c xs)(hvc:dF (xs.map aF.f)=0):
  Calls Tryz.prog 25 #[.slice a xs.length c] w fun e w'=>(∃v,e=.returned (.tuple #[v,.int .i64 0])∧w'.ownsRow w.heap.size 9 1 v (dZ (xs.map aF.f)).length (iS (dZ (xs.map aF.f))))∧Below w.heap.size w w':=by
 obtain⟨i0,hi,hz0,hz1,hz2⟩:=info_parts Ys;have HC:Hid (Calls Tryz.prog 30 #[.slice a xs.length c] w fun e w'=>e=.returned (.int .i64 0)∧Below w.heap.size w w'):=by
  have h:=Fp xs a c w hv.len hv.cap hv.facts hv.tight;rw[hvc] at h;exact h
 have hlen:=hv.len;have HL:=Hd hv.facts;obtain⟨fs,hfs⟩:∃fs,fs=xs.map aF.f:=⟨_,rfl⟩
 have hfl:fs.length=xs.length:=by rw[hfs,List.length_map]
 rw[←hfs] at hvc;have HVC:=Hd hvc;have HFD:Hid (∀key W,Below w.heap.size w W→Calls Tryz.prog 53 #[.slice a xs.length c,.string ⟨key.toArray⟩] W fun e w'=>e=.returned (qN fs key)∧Below W.heap.size W w'):=fun key W hb=>by rw[hfs];exact Rw xs a c key W hv.len (hv.facts.below hb)
 have HCN:Hid (∀(f:aF) W,Below w.heap.size w W→Calls Tryz.prog 54 #[.slice a xs.length c,.agg f.arr] W fun e w'=>(∃i:Int,e=.returned (.int .i64 i)∧uM fs f.f i)∧Below W.heap.size W w'):=fun f W hb=>by rw[hfs];exact Jf xs a c f W hv.len (hv.facts.below hb)
 have HFS:=Hd hfs;have HINF:=Hd (And.intro hi (And.intro hz0 (And.intro hz1 hz2)));rw[←hfs,←aGh,hfl];clear hv hvc hi hz0 hz1 hz2 hfs;go_enter Tryz.func25,Tryz.ntmps25;go_wp2_with fail;refine HC.out.mono ?_;rintro e w1 ⟨rfl,hb⟩;have HB:=Hd hb;clear hb HC;go_wp2_with fail;go_loopw [4,5] (fun ov iv wr=>∃k:Nat,k≤xs.length∧iv=.int .i64 k∧Hid (wr.ownsRow w.heap.size 9 1 ov (aAc fs k).length (iS (aAc fs k)))∧Hid (Below w.heap.size w wr)) (fun _ iv _=>xs.length-(intOf iv).toNat)
 case atStart=>exact⟨0,Nat.zero_le _,rfl,World.ownsRow_nil _ _ _ _,HB⟩
 case round =>
  clear HB;obtain⟨k,hk,rfl,HO,HB⟩:=hrel
  by_cases hlt:k<xs.length
  ·obtain⟨x,hx⟩:∃x,xs[k]?=some x:=⟨xs[k],Lg hlt⟩
   have hfk:fs[k]?=some x.f:=by rw[HFS.out,List.getElem?_map,hx];rfl
   obtain⟨b,off,rfl,hbl,hc⟩:=HL.out.1.addr (k:=k) (cs:=x.cells) (by rw[List.getElem?_map,hx];rfl);have HCX:Hid (∀j v,x.arr.toList[j]?=some v→wr.cell? ⟨b,off+k*21+j,none⟩=some v):=fun j v hv=>(HB.out.cell (p:=⟨b,off+k*21+j,none⟩) hbl).trans (hc j v hv)
   have x4:=HCX.out 4 _ (show x.arr.toList[4]?=some (.int .i64 x.f.kind) from rfl);have x8:=HCX.out 8 _ (show x.arr.toList[8]?=some (.string ⟨x.f.target.toArray⟩) from rfl);have HK:=Hd (aF7 hfk);have hll:=aGg fs k;obtain⟨s',hs'⟩:∃s',s'=aAc fs (k+1):=⟨_,rfl⟩
   rw[←hs'] at HK;have HS':=Hd hs';have HXM:=Hd (List.mem_of_getElem? hfk);have HFK:=Hd hfk;clear hs' hfk hx;generalize aAc fs k=s at *
   by_cases h1:x.f.kind=11
   ·rw[h1] at x4;have HKc:Hid (s'=if pJ fs x.f=true then s else s ++ [x.f.key]):=by
     show _=_;rw[HK.out];cases pJ fs x.f <;> simp[h1]
    clear HK;have HF:=Hd (HFD.out x.f.target wr HB.out);have HFT:=Hd (fun (h:lT fs x.f.target=none)=>aGl HVC.out HXM.out h);have HFA:=Hd (fun (i:Nat) (g:aE) (h:lT fs x.f.target=some i) (hg:fs[i]?=some g) (hc:pJ fs x.f=true)=>aFk HVC.out HXM.out h hg hc);have HFB:=Hd (fun (i:Nat) (g:aE) (n:Int) (h:lT fs x.f.target=some i) (hg:fs[i]?=some g) (hk:g.kind=10) (hn:uM fs g n)=>aGv HVC.out HFK.out h hg hk hn);have x0:=HCX.out 0 _ (show x.arr.toList[0]?=some (.string ⟨x.f.key.toArray⟩) from rfl);clear HCX;unfold qN at HF;generalize x.f.target=tg at *;generalize x.f.key=xk at *;generalize pJ fs x.f=cnt at *;cases hq:lT fs tg with
    |none =>
     rw[hq] at HF;have HF:Hid (Calls Tryz.prog 53 #[.slice (some ⟨b,off,none⟩) xs.length c,.string ⟨tg.toArray⟩] wr fun e w'=>e=.returned (.tuple #[.int .i64 0,.bool false])∧Below wr.heap.size wr w'):=HF;have HK2:Hid (s'=s ++ [xk]):=by show _=_;rw[HKc.out,HFT.out hq];rfl
     clear HKc HFT HFA HFB hq;go_wp2_with fail;refine HF.out.mono ?_;rintro e w2 ⟨rfl,hb⟩;have HBa:=Hd (aA HB.out hb);have HOa:=Hd (aD9 HO.out hb);have x0:=(hb.cell (p:=⟨b,off+k*21,none⟩) (Nat.lt_of_lt_of_le hbl HB.out.size)).trans x0;have HSZ:=Hd HBa.out.size;clear hb HF HO HB x4 x8;go_wp2_with (at_builtin;refine wpList_append_own_at _ rfl _ _ 45 rfl w.heap.size 9 i0 (.string ⟨#[]⟩) 1 16 Tryz.underlying45 HINF.out.1 HINF.out.2.1 HINF.out.2.2.1 HINF.out.2.2.2 rfl (by decide) _ _ _ rfl (HOa.out.alloc _) ⟨w2.heap.size,0,none⟩ 1 1 [.string ⟨xk.toArray⟩] rfl rfl (cell_one_new _ _ _) (by simp[Value.oneCell']) (by unfold maxLen;omega) (by omega) (by have:=HSZ.out;simp;omega) ?_);intro v' w9 hown' hgrow _ _;have HB9:=Hd (Ut (HOa.out.alloc (.cells #[.string ⟨xk.toArray⟩] 9)) hgrow (aA HBa.out (aB _ _)) (by have:=HSZ.out;simp;omega));have HO9:Hid (w9.ownsRow w.heap.size 9 1 v' s'.length (iS s')):=by
      show World.ownsRow _ _ _ _ _ _ _;rw[HK2.out];simpa[iS] using hown'
     clear hgrow hown';go_wp2;go_roundw
     case rel=>exact⟨k+1,by omega,by go_num,(by rw[←HS'.out];exact HO9),HB9⟩
     case measure=>simp[intOf];omega
    |some i =>
     rw[hq] at HF;have HF:Hid (Calls Tryz.prog 53 #[.slice (some ⟨b,off,none⟩) xs.length c,.string ⟨tg.toArray⟩] wr fun e w'=>e=.returned (.tuple #[.int .i64 (i:Int),.bool true])∧Below wr.heap.size wr w'):=HF;obtain⟨g,hg,_⟩:=aFj hq;have hgf:=hg;rw[HFS.out,List.getElem?_map] at hg;obtain⟨y,hy,rfl⟩:=Option.map_eq_some_iff.1 hg;have hil:i<xs.length:=(Li.1 hy).1;obtain⟨b',off',e',hbl',hcy⟩:=HL.out.1.addr (k:=i) (cs:=y.cells) (by rw[List.getElem?_map,hy];rfl);injection e' with e'
     injection e' with e1 e2
     subst e1 e2;have HCY:Hid (∀j v,y.arr.toList[j]?=some v→w.cell? ⟨b,off+i*21+j,none⟩=some v):=hcy;have HSY:Hid ((Tryz.prog.info? 30).map (·.size)=some y.arr.size):=aY y.f y.pa y.oa y.pc y.oc;have HA:=Hd (fun (hc:cnt=true)=>HFA.out i y.f hq hgf hc);have HCT:=Hd (fun (n:Int) (hk:y.f.kind=10) (hn:uM fs y.f n)=>HFB.out i y.f n hq hgf hk hn);have HCY4:Hid (y.arr.toList[4]?=some (.int .i64 y.f.kind)):=rfl;have HCNY:=Hd (HCN.out y);clear HFT HFA HFB hq hgf hg hy hcy HCN;generalize y.f.kind=yk at *;generalize uM fs y.f=CA at *;generalize y.arr=ya at *;go_wp2_with fail;refine HF.out.mono ?_;rintro e w2 ⟨rfl,hb⟩;have HBb:=Hd (aA HB.out hb);have HOb:=Hd (aD9 HO.out hb);have x0:=(hb.cell (p:=⟨b,off+k*21,none⟩) (Nat.lt_of_lt_of_le hbl HB.out.size)).trans x0;have HCW:Hid (∀j v,ya.toList[j]?=some v→w2.cell? ⟨b,off+i*21+j,none⟩=some v):=fun j v hv=>(HBb.out.cell (p:=⟨b,off+i*21+j,none⟩) hbl).trans (HCY.out j v hv)
     have y4:=HCW.out 4 _ HCY4.out;have hb2:b<w2.heap.size:=Nat.lt_of_lt_of_le hbl HBb.out.size;clear hb HF HO HB x4 x8 HCY HCY4
     by_cases h2:yk=10
     ·subst h2;have HCC:=Hd (HCNY.out w2 HBb.out);have HCT2:=Hd (fun (n:Int) (hn:CA n)=>HCT.out n rfl hn);clear HCNY HA HCT;go_wp2_with (refine aFg (by rfl) 30 _ rfl b (off+i*21) rfl ya _ HCW.out Tryz.underlying30 rfl HSY.out ?_;simp only[pS]);refine HCC.out.mono ?_;rintro e w3 ⟨⟨n,rfl,hn⟩,hb⟩;have HBa:=Hd (aA HBb.out hb);have HOa:=Hd (aD9 HOb.out hb);have x0:=(hb.cell (p:=⟨b,off+k*21,none⟩) hb2).trans x0;have HSZ:=Hd HBa.out.size;have HN:=Hd (HCT2.out n hn);clear hb hn HCT2 HOb HBb HCC y4;cases hnk:(n==(k:Int)) with
      |true =>
       have HK2:Hid (s'=s):=by show _=_;rw[HKc.out,←HN.out,hnk];rfl
       clear HKc HN;go_wp2;go_roundw
       case rel=>exact⟨k+1,by omega,by go_num,(by rw[←HS'.out,HK2.out];exact HOa),HBa⟩
       case measure=>simp[intOf];omega
      |false =>
       have HK2:Hid (s'=s ++ [xk]):=by show _=_;rw[HKc.out,←HN.out,hnk];rfl
       clear HKc HN;go_wp2_with (at_builtin;refine wpList_append_own_at _ rfl _ _ 45 rfl w.heap.size 9 i0 (.string ⟨#[]⟩) 1 16 Tryz.underlying45 HINF.out.1 HINF.out.2.1 HINF.out.2.2.1 HINF.out.2.2.2 rfl (by decide) _ _ _ rfl (HOa.out.alloc _) ⟨w3.heap.size,0,none⟩ 1 1 [.string ⟨xk.toArray⟩] rfl rfl (cell_one_new _ _ _) (by simp[Value.oneCell']) (by unfold maxLen;omega) (by omega) (by have:=HSZ.out;simp;omega) ?_);intro v' w9 hown' hgrow _ _;have HB9:=Hd (Ut (HOa.out.alloc (.cells #[.string ⟨xk.toArray⟩] 9)) hgrow (aA HBa.out (aB _ _)) (by have:=HSZ.out;simp;omega));have HO9:Hid (w9.ownsRow w.heap.size 9 1 v' s'.length (iS s')):=by
        show World.ownsRow _ _ _ _ _ _ _;rw[HK2.out];simpa[iS] using hown'
       clear hgrow hown';go_wp2;go_roundw
       case rel=>exact⟨k+1,by omega,by go_num,(by rw[←HS'.out];exact HO9),HB9⟩
       case measure=>simp[intOf];omega
     ·have h2':(yk==10)=false:=by simpa using h2
      have HK2:Hid (s'=s ++ [xk]):=by
       show _=_;rw[HKc.out];cases cnt with
       |false=>rfl
       |true=>exact absurd (HA.out rfl).1 h2
      have HBa:=HBb;have HOa:=HOb;have HSZ:=Hd HBa.out.size;clear HKc HA HCT HCNY HBb HOb;go_wp2_with (at_builtin;refine wpList_append_own_at _ rfl _ _ 45 rfl w.heap.size 9 i0 (.string ⟨#[]⟩) 1 16 Tryz.underlying45 HINF.out.1 HINF.out.2.1 HINF.out.2.2.1 HINF.out.2.2.2 rfl (by decide) _ _ _ rfl (HOa.out.alloc _) ⟨w2.heap.size,0,none⟩ 1 1 [.string ⟨xk.toArray⟩] rfl rfl (cell_one_new _ _ _) (by simp[Value.oneCell']) (by unfold maxLen;omega) (by omega) (by have:=HSZ.out;simp;omega) ?_);intro v' w9 hown' hgrow _ _;have HB9:=Hd (Ut (HOa.out.alloc (.cells #[.string ⟨xk.toArray⟩] 9)) hgrow (aA HBa.out (aB _ _)) (by have:=HSZ.out;simp;omega));have HO9:Hid (w9.ownsRow w.heap.size 9 1 v' s'.length (iS s')):=by
       show World.ownsRow _ _ _ _ _ _ _;rw[HK2.out];simpa[iS] using hown'
      clear hgrow hown';go_wp2;go_roundw
      case rel=>exact⟨k+1,by omega,by go_num,(by rw[←HS'.out];exact HO9),HB9⟩
      case measure=>simp[intOf];omega
   ·have h1':(x.f.kind==11)=false:=by simpa using h1
    have HK2:Hid (s'=s):=by show _=_;rw[HK.out,if_neg (by simp[h1])]
    clear HK;generalize x.f.kind=kd at *;go_wp2;go_roundw
    case rel=>exact⟨k+1,by omega,by go_num,(by rw[←HS'.out,HK2.out];exact HO),HB⟩
    case measure=>simp[intOf];omega
  ·obtain rfl:k=xs.length:=by omega
   go_wp2;go_ret2;exact⟨⟨_,rfl,HO.out⟩,HB.out⟩
def Xo(fs:List aE)(d:Int)(k:Nat):List (List UInt8):=((fs.take k).filter fun f=>decide (f.kind=10)&&aEu d f).map aE.key
theorem aF6{fs:List aE}{d:Int}{k:Nat}{x:aE}(hx:fs[k]?=some x):Xo fs d (k+1)=if(decide (x.kind=10)&&aEu d x)=true then Xo fs d k ++ [x.key] else Xo fs d k:=by
 unfold Xo;rw[List.take_add_one,hx,List.filter_append,List.map_append];cases h:(decide (x.kind=10)&&aEu d x) <;> simp[h]
theorem aGb(fs:List aE)(d:Int)(k:Nat):(Xo fs d k).length≤k:=by
 unfold Xo;rw[List.length_map];exact Nat.le_trans (List.length_filter_le _ _) (by rw[List.length_take];exact Nat.min_le_left _ _)
theorem aGc(fs:List aE)(d:Int):Xo fs d fs.length=Pu fs d:=by unfold Xo;rw[List.take_length];rfl
theorem aFz(xs:List aF)(a:Option Addr)(c:Nat)(d:Int)(w:World)(hv:rJ w a c xs)(hvc:dF (xs.map aF.f)=0)(hd:-25567≤d∧d≤84005):
  Calls Tryz.prog 27 #[.slice a xs.length c,.int .i64 d] w fun e w'=>(∃v,e=.returned (.tuple #[v,.int .i64 0])∧w'.ownsRow w.heap.size 9 1 v (Pu (xs.map aF.f) d).length (iS (Pu (xs.map aF.f) d)))∧Below w.heap.size w w':=by
 obtain⟨i0,hi,hz0,hz1,hz2⟩:=info_parts Ys;have HC:Hid (Calls Tryz.prog 30 #[.slice a xs.length c] w fun e w'=>e=.returned (.int .i64 0)∧Below w.heap.size w w'):=by
  have h:=Fp xs a c w hv.len hv.cap hv.facts hv.tight;rw[hvc] at h;exact h
 have hlen:=hv.len;have HL:=Hd hv.facts;obtain⟨fs,hfs⟩:∃fs,fs=xs.map aF.f:=⟨_,rfl⟩
 have hfl:fs.length=xs.length:=by rw[hfs,List.length_map]
 have HFS:=Hd hfs;have HINF:=Hd (And.intro hi (And.intro hz0 (And.intro hz1 hz2)));rw[←hfs,←aGc,hfl];obtain⟨hd1,hd2⟩:=hd;clear hv hvc hi hz0 hz1 hz2 hfs;go_enter Tryz.func27,Tryz.ntmps27;go_wp2_with fail;refine HC.out.mono ?_;rintro e w1 ⟨rfl,hb⟩;have HB:=Hd hb;have hd1':¬ d < -25567:=by omega
 have hd2':¬ 84005<d:=by omega
 clear hb HC hd1 hd2;go_wp2_with fail;go_loopw [6,7] (fun ov iv wr=>∃k:Nat,k≤xs.length∧iv=.int .i64 k∧Hid (wr.ownsRow w.heap.size 9 1 ov (Xo fs d k).length (iS (Xo fs d k)))∧Hid (Below w.heap.size w wr)) (fun _ iv _=>xs.length-(intOf iv).toNat)
 case atStart=>exact⟨0,Nat.zero_le _,rfl,World.ownsRow_nil _ _ _ _,HB⟩
 case round =>
  clear HB;obtain⟨k,hk,rfl,HOa,HBa⟩:=hrel
  by_cases hlt:k<xs.length
  ·obtain⟨x,hx⟩:∃x,xs[k]?=some x:=⟨xs[k],Lg hlt⟩
   have hfk:fs[k]?=some x.f:=by rw[HFS.out,List.getElem?_map,hx];rfl
   obtain⟨b,off,rfl,hbl,hc⟩:=HL.out.1.addr (k:=k) (cs:=x.cells) (by rw[List.getElem?_map,hx];rfl);have HCX:Hid (∀j v,x.arr.toList[j]?=some v→wr.cell? ⟨b,off+k*21+j,none⟩=some v):=fun j v hv=>(HBa.out.cell (p:=⟨b,off+k*21+j,none⟩) hbl).trans (hc j v hv)
   have x4:=HCX.out 4 _ (show x.arr.toList[4]?=some (.int .i64 x.f.kind) from rfl);have x3:=HCX.out 3 _ (show x.arr.toList[3]?=some (.int .i64 x.f.day) from rfl);have x19:=HCX.out 19 _ (show x.arr.toList[19]?=some (.slice x.oa x.f.options.length x.oc) from rfl);have x0:wr.cell? ⟨b,off+k*21,none⟩=some (.string ⟨x.f.key.toArray⟩):=HCX.out 0 _ (show x.arr.toList[0]?=some (.string ⟨x.f.key.toArray⟩) from rfl);have HK:=Hd (aF6 (d:=d) hfk);have hll:=aGb fs d k;obtain⟨s',hs'⟩:∃s',s'=Xo fs d (k+1):=⟨_,rfl⟩
   rw[←hs'] at HK;unfold aEu at HK;have HS':=Hd hs';have HSZ:=Hd HBa.out.size;clear hs' hfk hx hc HCX;generalize Xo fs d k=s at *;generalize x.f.kind=kd at *;generalize x.f.day=xd at *;generalize x.f.options.length=ol at *;generalize x.f.key=xk at *
   by_cases h1:kd=10
   ·subst h1
    by_cases h2:d<xd
    ·by_cases h3:1<ol
     ·have HK2:Hid (s'=s ++ [xk]):=by show _=_;rw[HK.out,if_pos (by simp[h2,h3])]
      have h3':(1:Int)<(ol:Int):=by omega
      clear HK h3;go_wp2_with (at_builtin;refine wpList_append_own_at _ rfl _ _ 45 rfl w.heap.size 9 i0 (.string ⟨#[]⟩) 1 16 Tryz.underlying45 HINF.out.1 HINF.out.2.1 HINF.out.2.2.1 HINF.out.2.2.2 rfl (by decide) _ _ _ rfl (HOa.out.alloc _) ⟨wr.heap.size,0,none⟩ 1 1 [.string ⟨xk.toArray⟩] rfl rfl (cell_one_new _ _ _) (by simp[Value.oneCell']) (by unfold maxLen;omega) (by omega) (by have:=HSZ.out;simp;omega) ?_);intro v' w9 hown' hgrow _ _;have HB9:=Hd (Ut (HOa.out.alloc (.cells #[.string ⟨xk.toArray⟩] 9)) hgrow (aA HBa.out (aB _ _)) (by have:=HSZ.out;simp;omega));have HO9:Hid (w9.ownsRow w.heap.size 9 1 v' s'.length (iS s')):=by
       show World.ownsRow _ _ _ _ _ _ _;rw[HK2.out];simpa[iS] using hown'
      clear hgrow hown';go_wp2;go_roundw
      case rel=>exact⟨k+1,by omega,by go_num,(by rw[←HS'.out];exact HO9),HB9⟩
      case measure=>simp[intOf];omega
     ·have HK2:Hid (s'=s):=by show _=_;rw[HK.out,if_neg (by simp[h3])]
      have h3':¬ (1:Int)<(ol:Int):=by omega
      clear HK h3;go_wp2;go_roundw
      case rel=>exact⟨k+1,by omega,by go_num,(by rw[←HS'.out,HK2.out];exact HOa),HBa⟩
      case measure=>simp[intOf];omega
    ·have HK2:Hid (s'=s):=by show _=_;rw[HK.out,if_neg (by simp[h2])]
     clear HK;go_wp2;go_roundw
     case rel=>exact⟨k+1,by omega,by go_num,(by rw[←HS'.out,HK2.out];exact HOa),HBa⟩
     case measure=>simp[intOf];omega
   ·have h1':(kd==10)=false:=by simpa using h1
    have HK2:Hid (s'=s):=by show _=_;rw[HK.out,if_neg (by simp[h1])]
    clear HK;go_wp2;go_roundw
    case rel=>exact⟨k+1,by omega,by go_num,(by rw[←HS'.out,HK2.out];exact HOa),HBa⟩
    case measure=>simp[intOf];omega
  ·obtain rfl:k=xs.length:=by omega
   go_wp2;go_ret2;exact⟨⟨_,rfl,HOa.out⟩,HBa.out⟩
end
section
open Go Go.RowKit Num
def Ra(fs:List aE)(key:List UInt8):Int:=if dF fs≠0 then 1 else if dC key=true then 0 else 23
def Fr(xs:List aF)(key:List UInt8):List aF:=if Ra (xs.map aF.f) key=0 then eF xs (lR key) 0 else[]
def aDt(fs:List aE):Int:=if dF fs≠0 then 1 else 0
def Kz(fs:List aE):List (List UInt8):=if aDt fs=0 then dZ fs else[]
def Qz(fs:List aE)(d:Int):Int:=if dF fs≠0 then 1 else if -25567≤d∧d≤84005 then 0 else 13
def Ec(fs:List aE)(d:Int):List (List UInt8):=if Qz fs d=0 then Pu fs d else[]
def Ug(w w':World)(T:TypeId)(k:Nat)(n:Nat)(l:List Value)(er:Int)(e:Ending):Prop:=(∃v,e=.returned (.tuple #[v,.int .i64 er])∧w'.ownsRow w.heap.size T k v n l)∧Below w.heap.size w w'
theorem Dy{w w':World}{T:TypeId}{k:Nat}{er:Int}{e:Ending}(h:e=.returned (.tuple #[.slice none 0 0,.int .i64 er])∧Below w.heap.size w w'):Ug w w' T k 0 [] er e:=⟨⟨_,h.1,World.ownsRow_nil _ _ _ _⟩,h.2⟩
theorem aFq(xs:List aF)(a:Option Addr)(c:Nat)(key:List UInt8)(w:World)(hv:rJ w a c xs)(hvc:dF (xs.map aF.f)≠0):
  Calls Tryz.prog 24 #[.slice a xs.length c,.string ⟨key.toArray⟩] w fun e w'=>e=.returned (.tuple #[.slice none 0 0,.int .i64 1])∧Below w.heap.size w w':=by
 have HC:=Hd (Fp xs a c w hv.len hv.cap hv.facts hv.tight);clear hv;generalize dF (xs.map aF.f)=ve at *;have hv':(ve==0)=false:=by simpa using hvc
 go_enter Tryz.func24,Tryz.ntmps24;go_wp2_with fail;refine HC.out.mono ?_;rintro e w1 ⟨rfl,hb⟩;have HB1:=Hd hb;clear hb;go_wp2_with fail;go_ret2;exact⟨rfl,HB1.out⟩
theorem aGx(xs:List aF)(a:Option Addr)(c:Nat)(w:World)(hv:rJ w a c xs)(hvc:dF (xs.map aF.f)≠0):
  Calls Tryz.prog 25 #[.slice a xs.length c] w fun e w'=>e=.returned (.tuple #[.slice none 0 0,.int .i64 1])∧Below w.heap.size w w':=by
 have HC:=Hd (Fp xs a c w hv.len hv.cap hv.facts hv.tight);clear hv;generalize dF (xs.map aF.f)=ve at *;have hv':(ve==0)=false:=by simpa using hvc
 go_enter Tryz.func25,Tryz.ntmps25;go_wp2_with fail;refine HC.out.mono ?_;rintro e w1 ⟨rfl,hb⟩;have HB1:=Hd hb;clear hb;go_wp2_with fail;go_ret2;exact⟨rfl,HB1.out⟩
theorem aF0(xs:List aF)(a:Option Addr)(c:Nat)(d:Int)(w:World)(hv:rJ w a c xs)(hvc:dF (xs.map aF.f)≠0):
  Calls Tryz.prog 27 #[.slice a xs.length c,.int .i64 d] w fun e w'=>e=.returned (.tuple #[.slice none 0 0,.int .i64 1])∧Below w.heap.size w w':=by
 have HC:=Hd (Fp xs a c w hv.len hv.cap hv.facts hv.tight);clear hv;generalize dF (xs.map aF.f)=ve at *;have hv':(ve==0)=false:=by simpa using hvc
 go_enter Tryz.func27,Tryz.ntmps27;go_wp2_with fail;refine HC.out.mono ?_;rintro e w1 ⟨rfl,hb⟩;have HB1:=Hd hb;clear hb;go_wp2_with fail;go_ret2;exact⟨rfl,HB1.out⟩
theorem aFb(xs:List aF)(a:Option Addr)(c:Nat)(key:List UInt8)(w:World)(hv:rJ w a c xs)(hvc:dF (xs.map aF.f)=0)(hkl:key.length≤1000)(hkn:dC key=false):
  Calls Tryz.prog 24 #[.slice a xs.length c,.string ⟨key.toArray⟩] w fun e w'=>e=.returned (.tuple #[.slice none 0 0,.int .i64 23])∧Below w.heap.size w w':=by
 have HC:=Hd (Fp xs a c w hv.len hv.cap hv.facts hv.tight);rw[hvc] at HC;clear hv;have HNM:Hid (∀W,Calls Tryz.prog 52 #[.string ⟨key.toArray⟩] W fun e w'=>e=.returned (.bool false)∧W=w'):=fun W=>by have:=mL key W (by omega);rw[hkn] at this;exact this
 clear hkn hvc;generalize xs.length=n at *;go_enter Tryz.func24,Tryz.ntmps24;go_wp2_with fail;refine HC.out.mono ?_;rintro e w1 ⟨rfl,hb⟩;have HB1:=Hd hb;clear hb;go_wp2_with fail;refine(HNM.out _).mono ?_;rintro e w2 ⟨rfl,rfl⟩;go_wp2_with fail;go_ret2;exact⟨rfl,HB1.out⟩
theorem aFo(xs:List aF)(a:Option Addr)(c:Nat)(d:Int)(w:World)(hv:rJ w a c xs)(hvc:dF (xs.map aF.f)=0)(hd:¬ (-25567≤d∧d≤84005)):
  Calls Tryz.prog 27 #[.slice a xs.length c,.int .i64 d] w fun e w'=>e=.returned (.tuple #[.slice none 0 0,.int .i64 13])∧Below w.heap.size w w':=by
 have HC:=Hd (Fp xs a c w hv.len hv.cap hv.facts hv.tight);rw[hvc] at HC;clear hv;clear hvc;generalize xs.length=n at *
 by_cases h1:d < -25567
 ·go_enter Tryz.func27,Tryz.ntmps27;go_wp2_with fail;refine HC.out.mono ?_;rintro e w1 ⟨rfl,hb⟩;have HB1:=Hd hb;clear hb;go_wp2_with fail;go_ret2;exact⟨rfl,HB1.out⟩
 ·have h2:84005<d:=by omega
  go_enter Tryz.func27,Tryz.ntmps27;go_wp2_with fail;refine HC.out.mono ?_;rintro e w1 ⟨rfl,hb⟩;have HB1:=Hd hb;clear hb;go_wp2_with fail;go_ret2;exact⟨rfl,HB1.out⟩
theorem aFw(xs:List aF)(a:Option Addr)(c:Nat)(key:List UInt8)(w:World)(hE:iE w)(hv:gT w a c xs)(hkl:key.length≤1000):
  Calls Tryz.prog 20 #[.slice a xs.length c,.string ⟨key.toArray⟩] w fun e w'=>Ug w w' 30 21 (Fr xs key).length (pX (Fr xs key)) (Ra (xs.map aF.f) key) e:=by
 by_cases hvc:dF (xs.map aF.f)=0
 ·cases hkn:dC key with
  |true =>
   have e1:Ra (xs.map aF.f) key=0:=by unfold Ra;rw[if_neg (by simpa using hvc),if_pos hkn]
   have e2:Fr xs key=eF xs (lR key) 0:=by unfold Fr;rw[if_pos e1]
   rw[e1,e2];exact Bt xs a c key w hE hv hvc hkl hkn
  |false =>
   have e1:Ra (xs.map aF.f) key=23:=by unfold Ra;rw[if_neg (by simpa using hvc),if_neg (by rw[hkn];decide)]
   have e2:Fr xs key=[]:=by unfold Fr;rw[e1];rfl
   rw[e1,e2];exact(aFe xs a c key w hE hv hvc hkl hkn).mono fun e w' h=>Dy h
 ·have e1:Ra (xs.map aF.f) key=1:=by unfold Ra;rw[if_pos hvc]
  have e2:Fr xs key=[]:=by unfold Fr;rw[e1];rfl
  rw[e1,e2];exact(aFv xs a c key w hE hv hvc).mono fun e w' h=>Dy h
theorem aFr(xs:List aF)(a:Option Addr)(c:Nat)(key:List UInt8)(w:World)(hv:rJ w a c xs)(hkl:key.length≤1000):
  Calls Tryz.prog 24 #[.slice a xs.length c,.string ⟨key.toArray⟩] w fun e w'=>Ug w w' 30 21 (Fr xs key).length (pX (Fr xs key)) (Ra (xs.map aF.f) key) e:=by
 by_cases hvc:dF (xs.map aF.f)=0
 ·cases hkn:dC key with
  |true =>
   have e1:Ra (xs.map aF.f) key=0:=by unfold Ra;rw[if_neg (by simpa using hvc),if_pos hkn]
   have e2:Fr xs key=eF xs (lR key) 0:=by unfold Fr;rw[if_pos e1]
   rw[e1,e2];exact aFp xs a c key w hv hvc hkl hkn
  |false =>
   have e1:Ra (xs.map aF.f) key=23:=by unfold Ra;rw[if_neg (by simpa using hvc),if_neg (by rw[hkn];decide)]
   have e2:Fr xs key=[]:=by unfold Fr;rw[e1];rfl
   rw[e1,e2];exact(aFb xs a c key w hv hvc hkl hkn).mono fun e w' h=>Dy h
 ·have e1:Ra (xs.map aF.f) key=1:=by unfold Ra;rw[if_pos hvc]
  have e2:Fr xs key=[]:=by unfold Fr;rw[e1];rfl
  rw[e1,e2];exact(aFq xs a c key w hv hvc).mono fun e w' h=>Dy h
theorem aG2(xs:List aF)(a:Option Addr)(c:Nat)(w:World)(hE:iE w)(hv:gT w a c xs):
  Calls Tryz.prog 21 #[.slice a xs.length c] w fun e w'=>Ug w w' 9 1 (Kz (xs.map aF.f)).length (iS (Kz (xs.map aF.f))) (aDt (xs.map aF.f)) e:=by
 by_cases hvc:dF (xs.map aF.f)=0
 ·have e1:aDt (xs.map aF.f)=0:=by unfold aDt;rw[if_neg (by simpa using hvc)]
  have e2:Kz (xs.map aF.f)=dZ (xs.map aF.f):=by unfold Kz;rw[if_pos e1]
  rw[e1,e2];exact Gz xs a c w hE hv hvc
 ·have e1:aDt (xs.map aF.f)=1:=by unfold aDt;rw[if_pos hvc]
  have e2:Kz (xs.map aF.f)=[]:=by unfold Kz;rw[e1];rfl
  rw[e1,e2];exact(aGm xs a c w hE hv hvc).mono fun e w' h=>Dy h
theorem aGy(xs:List aF)(a:Option Addr)(c:Nat)(w:World)(hv:rJ w a c xs):
  Calls Tryz.prog 25 #[.slice a xs.length c] w fun e w'=>Ug w w' 9 1 (Kz (xs.map aF.f)).length (iS (Kz (xs.map aF.f))) (aDt (xs.map aF.f)) e:=by
 by_cases hvc:dF (xs.map aF.f)=0
 ·have e1:aDt (xs.map aF.f)=0:=by unfold aDt;rw[if_neg (by simpa using hvc)]
  have e2:Kz (xs.map aF.f)=dZ (xs.map aF.f):=by unfold Kz;rw[if_pos e1]
  rw[e1,e2];exact aGw xs a c w hv hvc
 ·have e1:aDt (xs.map aF.f)=1:=by unfold aDt;rw[if_pos hvc]
  have e2:Kz (xs.map aF.f)=[]:=by unfold Kz;rw[e1];rfl
  rw[e1,e2];exact(aGx xs a c w hv hvc).mono fun e w' h=>Dy h
theorem aF5(xs:List aF)(a:Option Addr)(c:Nat)(d:Int)(w:World)(hE:iE w)(hv:gT w a c xs):
  Calls Tryz.prog 26 #[.slice a xs.length c,.int .i64 d] w fun e w'=>Ug w w' 9 1 (Ec (xs.map aF.f) d).length (iS (Ec (xs.map aF.f) d)) (Qz (xs.map aF.f) d) e:=by
 by_cases hvc:dF (xs.map aF.f)=0
 ·by_cases hd:-25567≤d∧d≤84005
  ·have e1:Qz (xs.map aF.f) d=0:=by unfold Qz;rw[if_neg (by simpa using hvc),if_pos hd]
   have e2:Ec (xs.map aF.f) d=Pu (xs.map aF.f) d:=by unfold Ec;rw[if_pos e1]
   rw[e1,e2];exact aF3 xs a c d w hE hv hvc hd
  ·have e1:Qz (xs.map aF.f) d=13:=by unfold Qz;rw[if_neg (by simpa using hvc),if_neg hd]
   have e2:Ec (xs.map aF.f) d=[]:=by unfold Ec;rw[e1];rfl
   rw[e1,e2];exact(aFs xs a c d w hE hv hvc hd).mono fun e w' h=>Dy h
 ·have e1:Qz (xs.map aF.f) d=1:=by unfold Qz;rw[if_pos hvc]
  have e2:Ec (xs.map aF.f) d=[]:=by unfold Ec;rw[e1];rfl
  rw[e1,e2];exact(aF4 xs a c d w hE hv hvc).mono fun e w' h=>Dy h
theorem aF1(xs:List aF)(a:Option Addr)(c:Nat)(d:Int)(w:World)(hv:rJ w a c xs):
  Calls Tryz.prog 27 #[.slice a xs.length c,.int .i64 d] w fun e w'=>Ug w w' 9 1 (Ec (xs.map aF.f) d).length (iS (Ec (xs.map aF.f) d)) (Qz (xs.map aF.f) d) e:=by
 by_cases hvc:dF (xs.map aF.f)=0
 ·by_cases hd:-25567≤d∧d≤84005
  ·have e1:Qz (xs.map aF.f) d=0:=by unfold Qz;rw[if_neg (by simpa using hvc),if_pos hd]
   have e2:Ec (xs.map aF.f) d=Pu (xs.map aF.f) d:=by unfold Ec;rw[if_pos e1]
   rw[e1,e2];exact aFz xs a c d w hv hvc hd
  ·have e1:Qz (xs.map aF.f) d=13:=by unfold Qz;rw[if_neg (by simpa using hvc),if_neg hd]
   have e2:Ec (xs.map aF.f) d=[]:=by unfold Ec;rw[e1];rfl
   rw[e1,e2];exact(aFo xs a c d w hv hvc hd).mono fun e w' h=>Dy h
 ·have e1:Qz (xs.map aF.f) d=1:=by unfold Qz;rw[if_pos hvc]
  have e2:Ec (xs.map aF.f) d=[]:=by unfold Ec;rw[e1];rfl
  rw[e1,e2];exact(aF0 xs a c d w hv hvc).mono fun e w' h=>Dy h
theorem aFu(xs:List aF)(a a2:Option Addr)(c d:Nat)(w:World)(hx:fS w a xs)(hy:fS w a2 xs)(hs:∀x,x∈xs→x.f.picks.length≤1000000∧x.f.options.length≤1000000)(hn:xs.length≤1000000):
  Calls Tryz.prog 28 #[.slice a xs.length c,.slice a2 xs.length d,.func (.func 19) #[] #[]] w fun e w'=>e=.returned (.bool true)∧Below w.heap.size w w':=by
 have HX:=Hd hx;have HY:=Hd hy;have HS:=Hd hs;clear hx hy hs;go_enter Tryz.func28,Tryz.ntmps28;go_wp2_with fail;go_loopw [17] (fun iv wr=>∃k:Nat,k≤xs.length∧iv=.int .i64 k∧Hid (Below w.heap.size w wr)) (fun iv _=>xs.length-(intOf iv).toNat)
 case atStart=>exact⟨0,Nat.zero_le _,rfl,Br _ _⟩
 case round =>
  obtain⟨k,hk,rfl,HB⟩:=hrel
  by_cases hlt:k<xs.length
  ·obtain⟨x,hx⟩:∃x,xs[k]?=some x:=⟨xs[k],Lg hlt⟩
   obtain⟨b,off,rfl,hbl,hc⟩:=HX.out.1.addr (k:=k) (cs:=x.cells) (by rw[List.getElem?_map,hx];rfl);obtain⟨b2,off2,rfl,hbl2,hc2⟩:=HY.out.1.addr (k:=k) (cs:=x.cells) (by rw[List.getElem?_map,hx];rfl);have hxm:=List.mem_of_getElem? hx;have HC:Hid (∀j v,x.arr.toList[j]?=some v→wr.cell? ⟨b,off+k*21+j,none⟩=some v):=fun j v hv=>(HB.out.cell (p:=⟨b,off+k*21+j,none⟩) hbl).trans (hc j v hv)
   have HBA:=Hd (aB wr (.cells eS 30));have HN1:=Hd (heap_alloc_new wr (.cells eS 30));have HSZ:Hid ((Tryz.prog.info? 30).map (·.size)=some x.arr.size):=aY x.f x.pa x.oa x.pc x.oc;have HS21:Hid (eS.size=x.arr.size):=rfl;have HONE:=Hd (dV x);have HSM:Hid (∀W,Below w.heap.size w W→Calls Tryz.prog 19 #[.agg x.arr,.agg x.arr] W fun e w'=>e=.returned (.bool true)∧Below W.heap.size W w'):=fun W hb=>rK x.f x.pa x.oa x.pa x.oa x.pc x.oc x.pc x.oc W ((HX.out.2 x hxm).below hb) ((HX.out.2 x hxm).below hb) (HS.out x hxm).1 (HS.out x hxm).2
   have HC2:Hid (∀W,Below wr.heap.size wr W→∀j v,x.arr.toList[j]?=some v→W.cell? ⟨b2,off2+k*21+j,none⟩=some v):=fun W hW j v hv=>((aA HB.out hW).cell (p:=⟨b2,off2+k*21+j,none⟩) hbl2).trans (hc2 j v hv)
   clear hc hc2 hx hxm;generalize x.arr=xc at *;go_wp2_with (first|(refine aM rfl 30 _ rfl b (off+k*21) rfl xc _ HC.out Tryz.underlying30 rfl HSZ.out ?_;simp only[pS])|(refine fI rfl 30 _ _ rfl wr.heap.size rfl xc rfl HN1.out HSZ.out HS21.out HONE.out ?_;intro w2 k2 b2' s2;have HB2:=Hd (HBA.out.trans (b2' _ (Nl _)));have HK2:=Hd k2;have HN2:=Hd (heap_alloc_new w2 (.cells eS 30));have HBA2:=Hd (aB w2 (.cells eS 30));have HCL2:=Hd (HC2.out w2 HB2.out);clear k2 b2' s2;simp only[Act.put])|(refine aM rfl 30 _ rfl b2 (off2+k*21) rfl xc _ HCL2.out Tryz.underlying30 rfl HSZ.out ?_;simp only[pS])|(refine fI rfl 30 _ _ rfl w2.heap.size rfl xc rfl HN2.out HSZ.out HS21.out HONE.out ?_;intro w3 k3 b3' s3;have HB3:=Hd (HBA2.out.trans (b3' _ (Nl _)));have HK3:=Hd k3;have HK23:=Hd (HK2.out.below HB3.out);clear k3 b3' s3;simp only[Act.put])|(refine wpList_load_row rfl 30 _ rfl wr.heap.size rfl 30 xc (0,0) _ HK23.out.2 Tryz.underlying30 rfl HSZ.out ?_;simp only[pS])|(refine wpList_load_row rfl 30 _ rfl w2.heap.size rfl 30 xc (0,0) _ HK3.out.2 Tryz.underlying30 rfl HSZ.out ?_;simp only[pS]));have HB4:=Hd (aA HB.out (aA HB2.out HB3.out));refine(HSM.out w3 HB4.out).mono ?_;rintro e w4 ⟨rfl,hb⟩;have HB5:=Hd (aA HB4.out hb);clear hb HB4;go_wp2;go_roundw
   case rel=>exact⟨k+1,by omega,by go_num,HB5⟩
   case measure=>simp[intOf];omega
  ·obtain rfl:k=xs.length:=by omega
   go_wp2;go_ret;exact⟨rfl,HB.out⟩
end
section
open Go Go.RowKit Num
theorem aGz{xs:List aF}{p:aE→Bool}{x:aF}(h:x∈eF xs p 0):x∈xs:=by
 rw[mG] at h;exact(List.mem_filter.1 h).1
theorem aGs{xs:List aF}{key:List UInt8}{x:aF}(h:x∈Fr xs key):x∈xs:=by
 unfold Fr at h;split at h
 ·exact aGz h
 ·cases h
theorem aGt(xs:List aF)(key:List UInt8):(Fr xs key).length≤xs.length:=by
 unfold Fr;split
 ·exact Se _ _
 ·exact Nat.zero_le _
theorem aGe(fs:List aE):(Kz fs).length≤fs.length:=by
 unfold Kz;split
 ·unfold dZ Ha;rw[List.length_map];exact List.length_filter_le _ _
 ·exact Nat.zero_le _
theorem aGd(fs:List aE)(d:Int):(Ec fs d).length≤fs.length:=by
 unfold Ec;split
 ·unfold Pu;rw[List.length_map];exact List.length_filter_le _ _
 ·exact Nat.zero_le _
theorem aF9(xs:List aF)(key:List UInt8)(d:Int)(a:Option Addr)(c:Nat)(w:World)(hE:iE w)(hn:xs.length≤9223372036854775807)(hcap:xs.length≤c)(hr:fS w a xs)(hf:∀x,x∈xs→x.fits)(hkl:key.length≤9223372036854775807):
  Calls Tryz.prog 7 #[.slice a xs.length c,.string ⟨key.toArray⟩,.int .i64 d] w fun e w'=>e=.returned (.bool true)∧Below w.heap.size w w':=by
 have HG:=Hd (nJ xs [] a none c 0 w hn hr hf (by decide) ⟨.inl rfl,fun y hy=>by cases hy⟩ (fun y hy=>by cases hy));have HAW:Hid (∀W,Below w.heap.size w W→Calls Tryz.prog 11 #[] W fun e w'=>e=.returned (.bool true)∧Below W.heap.size W w'):=fun W hb=>nR W (hE.below hb)
 have HE:=Hd hE;have HR:=Hd hr;have HF:=Hd hf;clear hE hr hf;go_enter Tryz.func7,Tryz.ntmps7;go_wp2_with fail;refine HG.out.mono ?_;rintro e w1 ⟨⟨g,rfl,hg⟩,hb⟩;have HB1:=Hd hb;have HGS:=Hd hg;clear hb hg HG;cases g with
 |true =>
  go_wp2_with fail;refine(HAW.out _ HB1.out).mono ?_;rintro e w2 ⟨rfl,hb⟩;go_wp2;go_ret;exact⟨rfl,aA HB1.out hb⟩
 |false =>
  by_cases h24:24<key.length
  ·have h24':(24:Int)<(key.length:Int):=by omega
   clear HGS;go_wp2_with fail;refine(HAW.out _ HB1.out).mono ?_;rintro e w2 ⟨rfl,hb⟩;go_wp2;go_ret;exact⟨rfl,aA HB1.out hb⟩
  ·have h24':¬ (24:Int)<(key.length:Int):=by omega
   have HSM:=Hd (HGS.out rfl);clear HGS;have hlen:xs.length≤1003:=by rcases HSM.out.1.2 with h|h <;> omega
   have HV:Hid (gT w a c xs):=⟨HR.out,fun y hy=>⟨(HSM.out.1.1 y hy).small,(HF.out y hy).picks⟩,by omega⟩
   have HRV:Hid (rJ w a c xs):=⟨HR.out,HSM.out.1.1,by omega,hcap⟩
   have HSZ:Hid (∀x,x∈xs→x.f.picks.length≤1000000∧x.f.options.length≤1000000):=fun x hx=>(HSM.out.1.1 x hx).sizes
   have HEL:Hid (∀W,Below w.heap.size w W→Calls Tryz.prog 20 #[.slice a xs.length c,.string ⟨key.toArray⟩] W fun e w'=>Ug W w' 30 21 (Fr xs key).length (pX (Fr xs key)) (Ra (xs.map aF.f) key) e):=fun W hb=>aFw xs a c key W (HE.out.below hb) (HV.out.below hb) (by omega)
   have HREL:Hid (∀W,Below w.heap.size w W→Calls Tryz.prog 24 #[.slice a xs.length c,.string ⟨key.toArray⟩] W fun e w'=>Ug W w' 30 21 (Fr xs key).length (pX (Fr xs key)) (Ra (xs.map aF.f) key) e):=fun W hb=>aFr xs a c key W (HRV.out.below hb) (by omega)
   have HLT:Hid (∀W,Below w.heap.size w W→Calls Tryz.prog 21 #[.slice a xs.length c] W fun e w'=>Ug W w' 9 1 (Kz (xs.map aF.f)).length (iS (Kz (xs.map aF.f))) (aDt (xs.map aF.f)) e):=fun W hb=>aG2 xs a c W (HE.out.below hb) (HV.out.below hb)
   have HRLT:Hid (∀W,Below w.heap.size w W→Calls Tryz.prog 25 #[.slice a xs.length c] W fun e w'=>Ug W w' 9 1 (Kz (xs.map aF.f)).length (iS (Kz (xs.map aF.f))) (aDt (xs.map aF.f)) e):=fun W hb=>aGy xs a c W (HRV.out.below hb)
   have HPD:Hid (∀W,Below w.heap.size w W→Calls Tryz.prog 26 #[.slice a xs.length c,.int .i64 d] W fun e w'=>Ug W w' 9 1 (Ec (xs.map aF.f) d).length (iS (Ec (xs.map aF.f) d)) (Qz (xs.map aF.f) d) e):=fun W hb=>aF5 xs a c d W (HE.out.below hb) (HV.out.below hb)
   have HRPD:Hid (∀W,Below w.heap.size w W→Calls Tryz.prog 27 #[.slice a xs.length c,.int .i64 d] W fun e w'=>Ug W w' 9 1 (Ec (xs.map aF.f) d).length (iS (Ec (xs.map aF.f) d)) (Qz (xs.map aF.f) d) e):=fun W hb=>aF1 xs a c d W (HRV.out.below hb)
   have hl1:=aGt xs key;have hl2:=aGe (xs.map aF.f);have hl3:=aGd (xs.map aF.f) d;rw[List.length_map] at hl2 hl3;have HRS:Hid (∀x,x∈Fr xs key→x∈xs):=fun x hx=>aGs hx
   have HBH:=Hd HR.out.2;clear HV HRV HSM HF HE HR h24;generalize Fr xs key=el at *;generalize Ra (xs.map aF.f) key=ee at *;generalize Kz (xs.map aF.f)=lt at *;generalize aDt (xs.map aF.f)=le at *;generalize Ec (xs.map aF.f) d=pk at *;generalize Qz (xs.map aF.f) d=pe at *;go_wp2_with fail;refine(HEL.out _ HB1.out).mono ?_;rintro e w2 ⟨⟨v2,rfl,ho2⟩,hb⟩;have HB2:=Hd (aA HB1.out hb);obtain⟨a2,c2,rfl,hf2,_⟩:=Ad ho2 (fun y hy=>(HBH.out y (HRS.out y hy)).below HB2.out);have HF2:=Hd hf2;clear hb ho2 hf2 HEL HB1;go_wp2_with fail;refine(HREL.out _ HB2.out).mono ?_;rintro e w3 ⟨⟨v3,rfl,ho3⟩,hb⟩;have HB3:=Hd (aA HB2.out hb);obtain⟨a3,c3,rfl,hf3,_⟩:=Ad ho3 (fun y hy=>(HBH.out y (HRS.out y hy)).below HB3.out);have HF3:=Hd hf3;have HF2:=Hd (HF2.out.below hb);clear hb ho3 hf3 HREL HB2;go_wp2_with fail;refine(HLT.out _ HB3.out).mono ?_;rintro e w4 ⟨⟨v4,rfl,ho4⟩,hb⟩;obtain⟨a4,c4,rfl,hr4,_,_⟩:=aEp ho4;have HB4:=Hd (aA HB3.out hb);have HF2:=Hd (HF2.out.below hb);have HF3:=Hd (HF3.out.below hb);have HR4:=Hd hr4;clear hb ho4 hr4 HLT HB3;go_wp2_with fail;refine(HRLT.out _ HB4.out).mono ?_;rintro e w5 ⟨⟨v5,rfl,ho5⟩,hb⟩;obtain⟨a5,c5,rfl,hr5,_,_⟩:=aEp ho5;have HB5:=Hd (aA HB4.out hb);have HF2:=Hd (HF2.out.below hb);have HF3:=Hd (HF3.out.below hb);have HR4:=Hd (HR4.out.below hb);have HR5:=Hd hr5;clear hb ho5 hr5 HRLT HB4;go_wp2_with fail;refine(HPD.out _ HB5.out).mono ?_;rintro e w6 ⟨⟨v6,rfl,ho6⟩,hb⟩;obtain⟨a6,c6,rfl,hr6,_,_⟩:=aEp ho6;have HB6:=Hd (aA HB5.out hb);have HF2:=Hd (HF2.out.below hb);have HF3:=Hd (HF3.out.below hb);have HR4:=Hd (HR4.out.below hb);have HR5:=Hd (HR5.out.below hb);have HR6:=Hd hr6;clear hb ho6 hr6 HPD HB5;go_wp2_with fail;refine(HRPD.out _ HB6.out).mono ?_;rintro e w7 ⟨⟨v7,rfl,ho7⟩,hb⟩;obtain⟨a7,c7,rfl,hr7,_,_⟩:=aEp ho7;have HB7:=Hd (aA HB6.out hb);have HF2:=Hd (HF2.out.below hb);have HF3:=Hd (HF3.out.below hb);have HR4:=Hd (HR4.out.below hb);have HR5:=Hd (HR5.out.below hb);have HR6:=Hd (HR6.out.below hb);have HR7:=Hd hr7;clear hb ho7 hr7 HRPD HB6;have HQ1:=Hd (aFu el a2 a3 c2 c3 w7 HF2.out HF3.out (fun x hx=>HSZ.out x (HRS.out x hx)) (by omega));have HQ2:Hid (∀W,Below w7.heap.size w7 W→Calls Tryz.prog 29 #[.slice a4 lt.length c4,.slice a5 lt.length c5] W fun e w'=>e=.returned (.bool true)∧Below W.heap.size W w'):=fun W hb=>by
    have h:=Ep lt lt a4 a5 c4 c5 W (by omega) (by omega) (HR4.out.below hb) (HR5.out.below hb);rw[decide_eq_true (rfl:lt=lt)] at h;exact h
   have HQ3:Hid (∀W,Below w7.heap.size w7 W→Calls Tryz.prog 29 #[.slice a6 pk.length c6,.slice a7 pk.length c7] W fun e w'=>e=.returned (.bool true)∧Below W.heap.size W w'):=fun W hb=>by
    have h:=Ep pk pk a6 a7 c6 c7 W (by omega) (by omega) (HR6.out.below hb) (HR7.out.below hb);rw[decide_eq_true (rfl:pk=pk)] at h;exact h
   clear HF2 HF3 HR4 HR5 HR6 HR7 HSZ HRS HBH;go_wp2_with fail;refine HQ1.out.mono ?_;rintro e w8 ⟨rfl,hb8⟩;have HB8:=Hd hb8;clear hb8 HQ1;go_wp2_with fail;refine(HQ2.out _ HB8.out).mono ?_;rintro e w9 ⟨rfl,hb9⟩;have HB9:=Hd (aA HB8.out hb9);clear hb9 HQ2 HB8;go_wp2_with fail;refine(HQ3.out _ HB9.out).mono ?_;rintro e w10 ⟨rfl,hb10⟩;have HB10:=Hd (aA HB7.out (aA HB9.out hb10));clear hb10 HQ3 HB9;go_wp2_with fail;refine(HAW.out _ HB10.out).mono ?_;rintro e w11 ⟨rfl,hb⟩;go_wp2;go_ret;exact⟨rfl,aA HB10.out hb⟩
end
end Go.Proofs.YtbcebibkpfklnaaGreatDoor
