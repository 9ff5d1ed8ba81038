/- Series SerRow RSeries RLatest RFresh PriceLatestLaw -/
import Derived.Test.YtejkibnaidiklaaGreatDoorJMem
import Derived.Test.YtejkibnaidiklaaGreatDoorJPriceA
import Derived.Test.YtejkibnaidiklaaGreatDoorJWhereA
import Derived.Test.YtejkibnaidiklaaGreatDoorJPriceB
import Derived.Test.YtejkibnaidiklaaGreatDoorJRowF
import Derived.Test.YtejkibnaidiklaaGreatDoorJRViewA
import Derived.Test.YtejkibnaidiklaaGreatDoorJRField
import Derived.Test.YtejkibnaidiklaaGreatDoorJPriceC
import Derived.Maps.OwnIn
set_option maxHeartbeats 16000000
set_option maxRecDepth 100000
namespace Go.Proofs.YtejkibnaidiklaaGreatDoor
section
open Go Go.RowKit Go.Shelf Num
def aT7(l:List aJv):List Value:=l.flatMap fun q=>(aOx q).toList
theorem aU3(l:List aJv)(q:aJv):aT7 (l ++ [q])=aT7 l++(aOx q).toList:=by simp[aT7]
def aVm:Value:=.agg #[.int .i64 0,.string ⟨#[]⟩,.string ⟨#[]⟩]
theorem aVd:(Tryz.prog.info? 46).map (fun i=>(i.zero,i.size,i.bytes))=some (some aVm,3,40):=by kernel_rfl
theorem aUb(W:World)(cs:Array Value)(T:TypeId)(j:Nat)(u:Value)(h:cs.toList[j]?=some u):(W.alloc (.cells cs T)).cell? ((⟨W.heap.size,0,none⟩:Addr).add j)=some u:=by
 rw[show (⟨W.heap.size,0,none⟩:Addr).add j=⟨W.heap.size,j,none⟩ by by_cases hk:j=0 <;> simp[Addr.add,hk],aS (heap_alloc_new W _),←h,Array.getElem?_toList]
def aUh(o:Nat)(T:TypeId)(W:World)(k:Nat):Prop:=k=o∨∃v,Boxed W o T v∧v.ownBlock=some k
section
variable {A B:World}{o m N:Nat}{T:TypeId}
theorem aT6(h:B.heap[o]?=A.heap[o]?)(k:Nat)(hx:aUh o T B k):aUh o T A k:=by
 rcases hx with h'|⟨v,hv,hb⟩
 ·exact .inl h'
 ·exact .inr ⟨v,h.symm.trans hv,hb⟩
theorem aU1(ho:o<m):∀A B,m≤A.heap.size→aR4 m A B→∀k,aUh o T B k→aUh o T A k:=fun A B hA hm k hx=>by
 have hlt:o<A.heap.size:=by omega
 rcases hm with hm|hm
 ·exact aT6 (hm.block o hlt (by simp)) k hx
 ·exact aT6 (hm.block o hlt (fun e=>by injection e with e;omega)) k hx
theorem aVc(ho:o<A.heap.size)(h:Below A.heap.size A B):KpX N (aUh o T) A B:=by
 have hb:=fun k hx=>aT6 (T:=T) (h.block o ho) k hx
 exact⟨⟨h.os,h.tape,h.output,h.size,fun k ob _ hk _=>(h.block k (Ai.1 hk).1).trans hk,fun k hx=>.inl (hb k hx)⟩,fun hl k hx=>Nat.lt_of_lt_of_le (hl k (hb k hx)) h.size⟩
theorem aVy(W:World)(l:Nat)(ob ob':Obj)(hl:N≤l)(ho:o<N)(hw:W.heap[l]?=some ob)(hc:ob.isCells=false):KpX N (aUh o T) W (W.putObj l ob'):=by
 have hb:=fun k hx=>aT6 (A:=W) (B:=W.putObj l ob') (T:=T) (show (W.putObj l ob').heap[o]?=W.heap[o]? from World.putObj_heap_other (by omega)) k hx
 refine⟨⟨rfl,rfl,rfl,by simp[World.putObj],fun k x _ hk hn=>?_,fun k hx=>.inl (hb k hx)⟩,fun h k hx=>?_⟩
 ·refine(World.putObj_heap_other fun e=>?_).trans hk;subst e;rw[hw] at hk;cases hk;rcases hn with h|h
  ·omega
  ·rw[hc] at h;cases h
 ·have:=h k (hb k hx);simpa[World.putObj] using this
theorem aVi{W w1:World}{n₀:Nat}{t e:TypeId}{size:Nat}{v v':Value}{k j:Nat}{xs ys:List Value}{tmp:Obj}(hv:Boxed W o t v)(hte:t≠e)(hrow:W.ownsRow n₀ e size v k xs)(hn₀:n₀≤W.heap.size)
  (hown':w1.ownsRow n₀ e size v' j ys) (hgrow:(W.alloc tmp).grownBy w1 v.ownBlock) (hob:v'.ownBlock=v.ownBlock∨v'.ownBlock=some (W.alloc tmp).heap.size) :
  (Boxed w1 o t v∧Boxed (w1.setCell ⟨o,0,none⟩ v') o t v'∧(w1.setCell ⟨o,0,none⟩ v').ownsRow n₀ e size v' j ys∧KeepsOthers W (w1.setCell ⟨o,0,none⟩ v'))∧KpX N (aUh o t) W (w1.setCell ⟨o,0,none⟩ v'):=by
 obtain⟨h1,h2,h3,h4,_⟩:=Dc (P:=fun _=>False) hv hte hrow hn₀ (fun _ h=>h.elim) hown' hgrow;have hs:W.heap.size≤w1.heap.size:=Nat.le_trans (by simp) hgrow.size;have g2:=grownBy_setCell' w1 o v';refine⟨⟨h1,h2,h3,h4⟩,⟨⟨g2.os.trans hgrow.os,g2.tape.trans hgrow.tape,g2.output.trans hgrow.output,Nat.le_trans hs g2.size,fun i ob hx hi _=>?_,fun i hx=>?_⟩,fun _ i hx=>?_⟩⟩
 ·have hl:=(Ai.1 hi).1;have e1:w1.heap[i]?=(W.alloc tmp).heap[i]? := hgrow.block i (by simp;omega) (fun e=>hx (.inr ⟨v,hv,e.symm⟩));have e2:(w1.setCell ⟨o,0,none⟩ v').heap[i]?=w1.heap[i]? := g2.block i (by omega) (fun e=>hx (.inl (by injection e)));rw[e2,e1];exact(Below.heap_alloc _ _ _ hl).trans hi
 ·rcases hx with h|⟨u,hu,hb⟩
  ·exact .inl (.inl h)
  ·have:u=v':=by
    have e:(w1.setCell ⟨o,0,none⟩ v').heap[o]?=_:=h2;rw[show (w1.setCell ⟨o,0,none⟩ v').heap[o]?=_ from hu] at e;injection e with e
    injection e with e _ _
    have:=congrArg (fun (z:Array Value)=>z[0]?) e;simpa using this
   subst this;rcases hob with h|h
   ·exact .inl (.inr ⟨v,hv,h.symm.trans hb⟩)
   ·right;rw[h] at hb;injection hb with hb
    rw[←hb];simp
 ·rcases hx with h|⟨u,hu,hb⟩
  ·subst h;exact h2.lt
  ·have:u=v':=by
    have e:(w1.setCell ⟨o,0,none⟩ v').heap[o]?=_:=h2;rw[show (w1.setCell ⟨o,0,none⟩ v').heap[o]?=_ from hu] at e;injection e with e
    injection e with e _ _
    have:=congrArg (fun (z:Array Value)=>z[0]?) e;simpa using this
   subst this;rcases h3.2 with⟨rfl,_⟩|⟨g,cap,cur,rfl,_,hgb,_⟩
   ·simp[Value.ownBlock] at hb
   ·obtain rfl:g=i:=by simpa[Value.ownBlock] using hb
    exact(Ai.1 hgb).1
end
def aUn(fs:List aE)(ins:List UInt8):List aJv:=if aPk fs 0 []=0 then ser ins fs else[]
theorem aWg(xs:List aF)(a:Option Addr)(c:Nat)(ins:List UInt8)(w:World)(hE:iE w)(hv:gT w a c xs)(he:¬ aPk (xs.map aF.f) 0 []=0):
  Calls Tryz.prog 32 #[.slice a xs.length c,.string ⟨ins.toArray⟩] w fun e w'=>e=.returned (.tuple #[.slice none 0 0,.int .i64 (aPk (xs.map aF.f) 0 [])])∧Below w.heap.size w w':=by
 have HPC:=Hd (aQa xs a c 0 [] none 0 w hE hv (by simp) (.inl rfl));clear hE hv;rw[show ([]:List Int).length=0 from rfl] at HPC;generalize aPk (xs.map aF.f) 0 []=pe at *;have he':(pe==0)=false:=by simpa using he
 generalize xs.length=n at *;go_enter Tryz.func32,Tryz.ntmps32;go_wp2_with fail;refine HPC.out.mono ?_;rintro e w1 ⟨rfl,hb⟩;have HB1:=Hd hb;clear hb;go_wp2_with fail;go_ret2;exact⟨rfl,HB1.out⟩
attribute [local go_sem] Oper.semAt_some
theorem aUz(xs:List aF)(a:Option Addr)(c:Nat)(ins:List UInt8)(w:World)(hE:iE w)(hv:gT w a c xs)(he:aPk (xs.map aF.f) 0 []=0):
  Calls Tryz.prog 32 #[.slice a xs.length c,.string ⟨ins.toArray⟩] w fun e w'=>(∃v,e=.returned (.tuple #[v,.int .i64 0])∧w'.ownsRow w.heap.size 46 3 v (ser ins (xs.map aF.f)).length (aT7 (ser ins (xs.map aF.f))))∧Below w.heap.size w w':=by
 obtain⟨i0,hi,hz0,hz1,hz2⟩:=info_parts aVd;have HINF:=Hd (And.intro hi (And.intro hz0 (And.intro hz1 hz2)));have hpc:=aQa xs a c 0 [] none 0 w hE hv (by simp) (.inl rfl);rw[he] at hpc;have HPC:=Hd hpc;have hn:=hv.len;have HFA:=Hd hv.facts;clear hE hv he hpc hi hz0 hz1 hz2;refine(callsIn_wide (n:=6)).1 ?_;refine callsIn_of_wp_marks Tryz.func32 rfl trivial ?_ rfl;simp only[Tryz.ntmps32,List.size_toArray,List.length_cons,List.length_nil,Nat.reduceAdd,Nat.reduceSub,Array.replicate_succ,Array.replicate_zero,List.push_toArray,List.append_toArray,List.nil_append,List.cons_append];gi_wp2_with fail;refine⟨trivial,(callsIn_wide.2 HPC.out).mono ?_⟩;rintro e w1 ⟨rfl,hb⟩;have HB1:=Hd hb;have HB2:=Hd (aA hb (aB w1 (.cells #[.slice none 0 0] 50)));have KO:=Hd (aP.new0 w1 #[.slice none 0 0] 50);have HO1:Hid (w.heap.size≤w1.heap.size):=hb.size;have HS2:Hid ((w1.alloc (.cells #[.slice none 0 0] 50)).heap.size=w1.heap.size+1):=World.size_alloc _ _;obtain⟨w2,hw2⟩:∃w2,w2=w1.alloc (.cells #[.slice none 0 0] 50):=⟨_,rfl⟩
 rw[←hw2] at HB2 KO HS2;clear hb HPC HB1;gi_wp2_with fail;rw[←hw2];clear hw2;refine⟨trivial,(callsIn_wide.2 (aR7 _ _ _ _ _)).mono ?_⟩;rintro e w3 ⟨bl,bi,rfl,lbl,lbi,kbl,kbi,hb⟩;have HB3:=Hd (aA HB2.out hb);have KO3:=Hd (KO.out.below hb);have KBL:=Hd kbl;have KBI:=Hd kbi;obtain⟨o,ho⟩:∃o,o=w1.heap.size:=⟨_,rfl⟩
 have HO:Hid (w.heap.size≤o∧o<w3.heap.size∧o<bl∧o<bi):=by
  have h1:=HO1.out;have h2:=HS2.out;have h3:=hb.size;show _∧_;omega
 rw[←ho] at KO3 ⊢;clear hb lbl lbi kbl kbi KO HB2 HO1 HS2 ho;have HX1:Hid (∀W1,Below w3.heap.size w3 W1→∀k,aUh o 50 W1 k→k=o):=fun W1 hb1 k hx=>by
  rcases hx with h|⟨v,hv,hk⟩
  ·exact h
  ·have h1:W1.heap[o]?=_:=(hb1.block o HO.out.2.1).trans KO3.out.2;rw[show W1.heap[o]?=_ from hv] at h1;injection h1 with h1
   injection h1 with h1 _ _
   have h2:=congrArg (fun (z:Array Value)=>z[0]?) h1;simp at h2;subst h2;simp[Value.ownBlock] at hk
 have HSEQ:Hid (∀W1,Below w3.heap.size w3 W1→W1.heap.size=w3.heap.size+2→aVj 5 Tryz.prog 118 #[.pointer (some ⟨bl,0,none⟩),.pointer (some ⟨bi,0,none⟩)] aSy (KpX w3.heap.size (aUh o 50)) (fun ys=>ys=ser ins (xs.map aF.f)) (xs.length+1) W1 (aUj ins (xs.map aF.f))):=fun W1 hb1 hs1=>aT9 5 xs a c bl bi ins w3.heap.size (aUh o 50) W1 hn (aU1 (by have:=HO.out.2.1;omega)) ⟨fun k hx=>by have:=HX1.out W1 hb1 k hx;have:=HO.out.2.1;omega,fun hx=>by have:=HX1.out W1 hb1 _ hx;have:=HO.out.2.1;omega⟩ (fun W hW=>by
  have h1:=HO.out;have hno:∀k,k<w3.heap.size→k≠o→¬ XR (aUh o 50) W1.heap.size W1 k:=fun k hk hne hx=>by
   rcases hx with hx|hx
   ·exact hne (HX1.out W1 hb1 k hx)
   ·omega
  have hwW:Below w.heap.size w W:=(HB3.out.trans (hb1.mono (by omega))).trans (hW.below (by omega) (fun k hk=>⟨hno k (by omega) (by omega),by omega⟩));exact⟨HFA.out.below hwW,hW.box (hno bl KBL.out.1 (by omega)) (KBL.out.below hb1),hW.box (hno bi KBI.out.1 (by omega)) (KBI.out.below hb1)⟩)
 gi_wp2_with fail;refine aUe (n:=6) (gf:=118) (lb:=#[.pointer (some ⟨bl,0,none⟩),.pointer (some ⟨bi,0,none⟩)]) rfl (enters_of Tryz.func118 (by kernel_rfl) rfl) (encs:=aSy) (Kp:=KpX w3.heap.size (aUh o 50)) (S:=fun ys=>ys=ser ins (xs.map aF.f)) (N:=xs.length+1) (fun h g=>h.trans g) (fun W l ob ob' hl ho hc=>aVy W l ob ob' hl HO.out.2.1 ho hc) (fun _=>rfl) HSEQ.out
  (fun pre W=>(∃v,Boxed W o 50 v∧W.ownsRow (w3.heap.size+3) 46 3 v pre.length (aT7 pre)∧True)∧(Below w.heap.size w W∧w3.heap.size≤W.heap.size))
  (OwnFrom.and (Own.from (holdsRow_own (w3.heap.size+3) o 50 46 3 (fun pre:List aJv=>pre.length) (fun pre=>aT7 pre) (fun _ _=>True)) _) (OwnFrom.and (ownFrom_below (Nl _) (by have:=HB3.out.size;omega)) (fun _ A B row hs hg _=>Nat.le_trans hs hg.size)))
  (fun pre A B h hm=>by
   have h1:=HO.out;obtain⟨⟨v,hvb,hvr,_⟩,hB,hsz⟩:=h;refine⟨⟨v,?_,?_,trivial⟩,aRz hB (by omega) hm (by omega),Nat.le_trans hsz (aSa hm)⟩
   ·rcases hm with hm|hm
    ·exact hvb.kept hm (by simp)
    ·exact hvb.kept hm (fun e=>by injection e with e;omega)
   ·rcases hm with hm|hm
    ·exact hvr.kept hm (Classical.em _)
    ·exact hvr.kept hm (.inr fun e=>by have:=hvr.lt _ e;omega))
  ⟨⟨_,aP.boxed KO3.out,World.ownsRow_nil _ _ _ _,trivial⟩,HB3.out,Nl _⟩
  (fun x a' W=>∃Bx,w3.heap.size+2≤Bx∧aP W Bx (aOx x) 46∧a' = { tmps:=#[.slice a xs.length c,.string ⟨ins.toArray⟩,undef,undef,.slice none 0 0,.int .i64 0,.int .i64 0,.pointer (some ⟨o,0,none⟩),.pointer (some ⟨Bx,0,none⟩),.slice a xs.length c,.int .i64 0,.int .i64 0,.bool false,undef,.slice a xs.length c,.string ⟨ins.toArray⟩,.func (.func 118) #[] #[.pointer (some ⟨bl,0,none⟩),.pointer (some ⟨bi,0,none⟩)],.agg (aOx x),undef,undef,undef,undef,undef],defers:=[] })
  (fun x a' _ A B row hs hg hr=>by obtain⟨Bx,h1,h2,h3⟩:=hs;exact⟨Bx,h1,nP Bx _ (fun (_:Unit)=>aOx x) () A B row h2 hg (fun r e=>(hr r e).2),h3⟩)
  ?assign ?body ?done
 case assign =>
  rintro l pre x W K ⟨⟨v,hvb,hvr,_⟩,hB,hsz⟩ hs2 hK;have HN:=Hd (heap_alloc_new W (.cells #[.int .i64 0,.string ⟨#[]⟩,.string ⟨#[]⟩] 46));have HBA:=Hd (aB W (.cells #[.int .i64 0,.string ⟨#[]⟩,.string ⟨#[]⟩] 46));have HKA:=Hd (KeepsOthers.alloc W (.cells #[.int .i64 0,.string ⟨#[]⟩,.string ⟨#[]⟩] 46));have HVB:=Hd hvb;have HVR:=Hd hvr;have HBB:=Hd hB;have HSX:Hid ((Tryz.prog.info? 46).map (·.size)=some (aOx x).size):=aPm;have HONE:Hid ((aOx x).all (·.oneCell')=true):=aPw x;have HS3:Hid ((#[.int .i64 0,.string ⟨#[]⟩,.string ⟨#[]⟩]:Array Value).size=(aOx x).size):=rfl;have HKK:=Hd hK;unfold aSy;clear hvb hvr hB hK;gi_wp2_with (refine bQ (by rfl) 46 _ _ rfl W.heap.size rfl (aOx x) rfl HN.out HSX.out HS3.out HONE.out ?_;intro w4 kx bx ko kot _);have hb4:=HBA.out.trans (bx _ (Nl _));have hgr4:=gZ hb4;exact HKK.out _ _ ((HKA.out.trans ko).from _) (aVc HVB.out.lt hb4) ⟨⟨v,HVB.out.kept hgr4 (by simp),HVR.out.kept hgr4 (Classical.em _),trivial⟩,aA HBB.out hb4,Nat.le_trans hsz hb4.size⟩ ⟨W.heap.size,hs2,kx,rfl⟩
 case body =>
  rintro l pre x a' W ⟨⟨v,hvb,hvr,_⟩,hB,hsz⟩ hs2 ⟨Bx,hBx,kX,rfl⟩ hlt _;have hqa:aOx x=#[.int .i64 x.day,.string ⟨x.price.n.toArray⟩,.string ⟨x.price.d.toArray⟩]:=rfl;have HSX:Hid ((Tryz.prog.info? 46).map (·.size)=some (aOx x).size):=aPm;have HFS:=Hd (aU3 pre x);rw[hqa] at kX HSX HFS;generalize x.day=xd at *;generalize(⟨x.price.n.toArray⟩:ByteArray)=xn at *;generalize(⟨x.price.d.toArray⟩:ByteArray)=xm at *;have HVB:=Hd hvb;have HVR:=Hd hvr;have HBB:=Hd hB;have KX:=Hd kX;have cO:=hvb.cell;have HSZ3:Hid (w3.heap.size+3≤W.heap.size):=by have:=kX.1;show _≤_;omega
  have HSZ2:Hid (w3.heap.size+3≤W.heap.size+1):=by show _≤_;omega
  have hpl:pre.length+1≤1000001:=by omega
  clear hvb hvr hB kX hqa;gi_wp2_with (first|(refine eP (by rfl) 46 _ rfl Bx rfl #[.int .i64 xd,.string xn,.string xm] _ KX.out Tryz.underlying46 rfl HSX.out ?_)|(gi_at_builtin;refine wpListIn_append_own_at _ rfl _ _ 50 rfl (w3.heap.size+3) 46 i0 aVm 3 40 Tryz.underlying50 HINF.out.1 HINF.out.2.1 HINF.out.2.2.1 HINF.out.2.2.2 rfl (by decide) _ _ _ rfl (HVR.out.alloc _) ⟨W.heap.size,0,none⟩ 1 1 [.int .i64 xd,.string xn,.string xm] rfl rfl (fun j u hj=>aUb W #[.int .i64 xd,.string xn,.string xm] _ j u hj) (by simp[Value.oneCell']) (by unfold maxLen;omega) (by omega) (by rw[World.size_alloc];exact HSZ2.out) ?_;intro v' w5 hown' hgrow _ hob;obtain⟨g',cap',rfl⟩:=ownsRow_succ hown';obtain⟨⟨hv1,hv2,hr2,hk2⟩,hx2⟩:=aVi (N:=w3.heap.size) HVB.out (by decide) HVR.out HSZ3.out hown' hgrow hob;have hc1:=hv1.cell;have hf1:=hv1.frozen;have HE1:=Hd hv2;have HE2:=Hd hr2;have HE4:=Hd hk2;have HE5:=Hd hx2;clear hv2 hr2 hk2 hx2 hown' hgrow hob));have hbw:Below w.heap.size W (w5.setCell ⟨o,0,none⟩ (.slice (some ⟨g',0,none⟩) (pre.length+1) cap')):=HE5.out.1.below HBB.out.size (fun k hk=>by
   have h1:=HO.out;have h2:=HB3.out.size;refine⟨fun hx=>?_,by omega⟩;rcases hx with hx|⟨u,hu,hb⟩
   ·omega
   ·have e:W.heap[o]?=_:=HVB.out;rw[show W.heap[o]?=_ from hu] at e;injection e with e
    injection e with e _ _
    have e2:=congrArg (fun (z:Array Value)=>z[0]?) e;simp at e2;subst e2;have:=HVR.out.lt _ hb;omega)
  exact⟨HE4.out.from _,HE5.out,⟨_,HE1.out,by rw[HFS.out];exact HE2.out⟩,HBB.out.trans hbw,by have:=Nat.le_trans hsz HE5.out.1.size;simpa using this⟩
 case done =>
  rintro D ys W hD rfl ⟨⟨v,hvb,hvr,_⟩,hB,hsz⟩ hK;have cO:=hvb.cell;have HBB:=Hd hB;have HK:=Hd hK;have HVR:=Hd hvr;have HHD:=Hd hD;clear hvb hvr hB hK hD;gi_wp2;refine⟨by simp,.inl ⟨_,_,rfl,run_takeDeferred HK.out,?_⟩⟩;refine⟨_,results_tmp2 rfl _ _ _,⟨v,rfl,?_⟩,HBB.out.trans (belowK_b (w:=w) (Nl _) W D _ _ (by have:=HB3.out.size;have:=HHD.out;omega) HK.out rfl rfl)⟩;exact Ck (ownsRow_putObj HVR.out _ HK.out rfl) (by have:=HB3.out.size;omega)
end
section
open Go Go.RowKit Num
def aUp(q:aJv):List Value:=(aOx q).toList
theorem aVt(l:List aJv):aT7 l=(l.map aUp).flatten:=by
 unfold aT7;rw[List.flatMap_def];rfl
theorem aUo{w:World}{a:Option Addr}{l:List aJv}(h:dT w a (aT7 l)):gJ w a 3 (l.map aUp):=by
 rw[aVt] at h;refine oY (by decide) (fun cs hcs=>?_) h;obtain⟨q,_,rfl⟩:=List.mem_map.1 hcs;rfl
theorem aV6(fs:List aE)(ins:List UInt8)(d:Int):aJ0 fs ins d=(aPv d (ser ins fs)).getLast? := rfl
end
section
open Go Go.RowKit Num
theorem aV7{w:World}{g:Nat}{cur:Array Value}{e:TypeId}{fr:Nat×Nat}(h:w.heap[g]?=some (.cells cur e fr))(j:Nat)(u:Value):(w.setCell ⟨g,j,none⟩ u).heap[g]?=some (.cells (cur.setIfInBounds j u) e fr):=by
 have hlt:=(Ai.1 h).1;have h':w.heap[g]=.cells cur e fr:=(Ai.1 h).2;show (w.heap.modify g _)[g]?=_;rw[Array.getElem?_eq_getElem (by simpa using hlt),Array.getElem_modify_self,h'];rfl
theorem aVv{w:World}{base n cap g j:Nat}{e:TypeId}{size:Nat}{xs:List Value}(h:w.ownsRow base e size (.slice (some ⟨g,0,none⟩) n cap) n xs)(u:Value):
  (w.setCell ⟨g,j,none⟩ u).ownsRow base e size (.slice (some ⟨g,0,none⟩) n cap) n (xs.set j u)∧w.grownBy (w.setCell ⟨g,j,none⟩ u) (some g):=by
 obtain⟨h1,h2⟩:=h;rcases h2 with⟨hv,_⟩|⟨g',cap',cur,hv,hg,hh,hc,hm,hs,ht⟩
 ·cases hv
 ·injection hv with e1 _ e2
  injection e1 with e1
  injection e1 with e1 _ _
  subst e1 e2;refine⟨⟨by rw[List.length_set];exact h1,.inr ⟨g,cap,cur.setIfInBounds j u,rfl,hg,aV7 hh j u,hc,hm,by simp[hs],?_⟩⟩,?_⟩
  ·rw[Array.toList_setIfInBounds,List.take_set,ht]
  ·exact⟨rfl,rfl,rfl,by simp[World.setCell],fun k hk hne=>Below.heap_setCell _ _ _ _ (fun e=>hne (by simp at e;rw[e]))⟩
theorem aV3{w:World}{base n:Nat}{e:TypeId}{size:Nat}{v:Value}{xs:List Value}(h:w.ownsRow base e size v n xs)(hn:0<n):∃g cap,v=.slice (some ⟨g,0,none⟩) n cap∧base≤g∧(∀j u,xs[j]?=some u→w.cell? ⟨g,j,none⟩=some u)∧∀j,w.frozen? ⟨g,j,none⟩=false:=by
 obtain⟨h1,h2⟩:=h;rcases h2 with⟨_,h0⟩|⟨g,cap,cur,hv,hg,hh,hc,hm,hs,ht⟩
 ·omega
 ·refine⟨g,cap,hv,hg,fun j u hu=>?_,fun j=>by simp[World.frozen?,hh]⟩;rw[aS hh,←Array.getElem?_toList,←hu,←ht];have hl:=(Li.1 hu).1;rw[List.getElem?_take_of_lt (by omega)]
theorem aWd(l:List aJv)(p q:aJv):(((aT7 (l ++ [p])).set (l.length*3) (.int .i64 q.day)).set (l.length*3+1) (.string ⟨q.price.n.toArray⟩)).set (l.length*3+2) (.string ⟨q.price.d.toArray⟩)=aT7 (l ++ [q]):=by
 rw[aU3,aU3];have hl:(aT7 l).length=l.length*3:=by
  unfold aT7
  induction l with
  |nil=>rfl
  |cons a r ih=>rw[List.flatMap_cons,List.length_append,ih,List.length_cons];show 3+_=_;omega
 rw[List.set_append_right _ _ (by omega),List.set_append_right _ _ (by omega),List.set_append_right _ _ (by omega),hl];simp[aOx]
theorem aTu(l:List aJv)(p:aJv):(aT7 (l ++ [p]))[l.length*3]?=some (.int .i64 p.day)∧(aT7 (l ++ [p]))[l.length*3+1]?=some (.string ⟨p.price.n.toArray⟩)∧(aT7 (l ++ [p]))[l.length*3+2]?=some (.string ⟨p.price.d.toArray⟩):=by
 rw[aU3];have hl:(aT7 l).length=l.length*3:=by
  unfold aT7
  induction l with
  |nil=>rfl
  |cons a r ih=>rw[List.flatMap_cons,List.length_append,ih,List.length_cons];show 3+_=_;omega
 refine⟨?_,?_,?_⟩
 ·rw[List.getElem?_append_right (by omega),hl];simp[aOx]
 ·rw[List.getElem?_append_right (by omega),hl];simp[aOx]
 ·rw[List.getElem?_append_right (by omega),hl];simp[aOx]
theorem aUu(xs:List aF)(a:Option Addr)(c:Nat)(ins:List UInt8)(w:World)(hn:xs.length≤1000000)(hr:fS w a xs):
  Calls Tryz.prog 71 #[.slice a xs.length c,.string ⟨ins.toArray⟩] w fun e w'=>(∃v,e=.returned v∧w'.ownsRow w.heap.size 46 3 v (ser ins (xs.map aF.f)).length (aT7 (ser ins (xs.map aF.f))))∧Below w.heap.size w w':=by
 obtain⟨i0,hi,hz0,hz1,hz2⟩:=info_parts aVd;have HINF:=Hd (And.intro hi (And.intro hz0 (And.intro hz1 hz2)));have HR:=Hd hr;obtain⟨L,hL⟩:∃L:Nat→List aJv,L=fun k=>ser ins ((xs.map aF.f).take k):=⟨_,rfl⟩
 have HL0:Hid (L 0=[]):=by show _=_;rw[hL];rfl
 have HLS:Hid (∀k x,xs[k]?=some x→L (k+1)=aJ1 ins (L k) x.f):=fun k x hx=>by rw[hL];exact aLm (by rw[List.getElem?_map,hx];rfl)
 have HLE:Hid (L xs.length=ser ins (xs.map aF.f)):=by show _=_;rw[hL];simp only;rw[List.take_of_length_le (by simp)]
 have HLN:Hid (∀k,(L k).length≤k):=fun k=>by rw[hL];exact Nat.le_trans (aLw _ _) (by simp;omega)
 have HOM:=Hd (World.ownsRow_made (e:=46) (size:=3) w #[] 0 (Nl _) (Nat.zero_le _) rfl);have HB0:=Hd (aB w (.cells #[] 46));clear hr hi hz0 hz1 hz2 hL;go_enter Tryz.func71,Tryz.ntmps71;go_wp2_with fail;go_loopw [5,6] (fun ov iv wr=>∃k:Nat,k≤xs.length∧iv=.int .i64 k∧Hid (wr.ownsRow w.heap.size 46 3 ov (L k).length (aT7 (L k)))∧Hid (Below w.heap.size w wr)) (fun _ iv _=>xs.length-(intOf iv).toNat)
 case atStart=>exact⟨0,Nat.zero_le _,rfl,by show World.ownsRow _ _ _ _ _ _ _;rw[HL0.out];exact HOM.out,HB0⟩
 case round =>
  obtain⟨k,hk,rfl,HO,HB⟩:=hrel;have HLK:=Hd (HLN.out k)
  by_cases hlt:k<xs.length
  ·obtain⟨x,hx⟩:∃x,xs[k]?=some x:=⟨xs[k],Lg hlt⟩
   obtain⟨b,off,rfl,hbl,hc⟩:=(HR.out.below HB.out).1.addr (k:=k) (cs:=x.cells) (by rw[List.getElem?_map,hx];rfl);have x3:wr.cell? ⟨b,off+k*21+3,none⟩=some (.int .i64 x.f.day):=hc 3 _ rfl;have x4:wr.cell? ⟨b,off+k*21+4,none⟩=some (.int .i64 x.f.kind):=hc 4 _ rfl;have x5:wr.cell? ⟨b,off+k*21+5,none⟩=some (.string ⟨x.f.ins.toArray⟩):=hc 5 _ rfl;have x12:wr.cell? ⟨b,off+k*21+12,none⟩=some (.string ⟨x.f.price.n.toArray⟩):=hc 12 _ rfl;have x13:wr.cell? ⟨b,off+k*21+12+1,none⟩=some (.string ⟨x.f.price.d.toArray⟩):=hc 13 _ rfl;have HSTEP:=Hd (HLS.out k x hx);have HIQ:Hid (isQ ins x.f=(decide (x.f.kind=15)&&(x.f.ins==ins))):=rfl;have HQN:Hid ((aJz x.f).day=x.f.day∧aOx (aJz x.f)=#[.int .i64 x.f.day,.string ⟨x.f.price.n.toArray⟩,.string ⟨x.f.price.d.toArray⟩]):=⟨rfl,rfl⟩
   have HLAST:Hid (∀l p,(((aT7 (l ++ [p])).set (l.length*3) (.int .i64 x.f.day)).set (l.length*3+1) (.string ⟨x.f.price.n.toArray⟩)).set (l.length*3+2) (.string ⟨x.f.price.d.toArray⟩)=aT7 (l ++ [aJz x.f])):=fun l p=>aWd l p (aJz x.f)
   clear hc hx HLS;unfold aJ1 at HSTEP;generalize aJz x.f=qn at *;generalize isQ ins x.f=iq at *;generalize x.f.day=xd at *;generalize x.f.kind=kd at *;generalize x.f.ins=xi at *;generalize(⟨x.f.price.n.toArray⟩:ByteArray)=xn at *;generalize(⟨x.f.price.d.toArray⟩:ByteArray)=xm at *
   by_cases hk15:kd=15
   case neg =>
    have h15:(kd==15)=false:=by simpa using hk15
    have HSAME:Hid (L (k+1)=L k):=by show _=_;rw[HSTEP.out,HIQ.out];simp[hk15]
    clear HSTEP HIQ HQN HLAST;go_wp2_with fail;go_roundw
    case rel=>exact⟨k+1,by omega,by go_num,by rw[HSAME.out];exact HO,HB⟩
    case measure=>simp[intOf];omega
   subst hk15;cases hin:(xi==ins) with
   |false =>
    have HSAME:Hid (L (k+1)=L k):=by show _=_;rw[HSTEP.out,HIQ.out,hin];simp
    clear HSTEP HIQ HQN HLAST;go_wp2_with fail;go_roundw
    case rel=>exact⟨k+1,by omega,by go_num,by rw[HSAME.out];exact HO,HB⟩
    case measure=>simp[intOf];omega
   |true =>
    have HADD:Hid (L (k+1)=aJ9 (L k) qn):=by show _=_;rw[HSTEP.out,HIQ.out,hin];simp
    clear HSTEP HIQ;obtain⟨a',cap',rfl,_⟩:=gK HO.out;go_wp2_with fail;go_region;obtain⟨w6,hw6⟩:∃w6,w6=(wr.alloc (.cells #[.int .i64 xd,.string xn,.string xm] 46)).drew:=⟨_,rfl⟩
    have hb6:Below wr.heap.size wr w6:=by rw[hw6];exact(aB _ _).drew
    have KX6:Hid (aP w6 wr.heap.size #[.int .i64 xd,.string xn,.string xm] 46):=by show aP _ _ _ _;rw[hw6];exact aP.new0 wr _ _
    have HO6:=Hd (aPl HO.out hb6);have HB6:=Hd (aA HB.out hb6);have HS6:=Hd HB6.out.size;rw[←hw6];clear hw6 hb6 x3 x4 x5 x12 x13 HO hbl;have y0:=(KX6.out.cell 0).trans (show _=some (.int .i64 xd) from rfl);generalize L k=lk at *;rcases aQu lk with rfl|⟨l',p,rfl⟩
    ·have HNEXT:Hid (L (k+1)=[] ++ [qn]):=HADD.out;have HO6:Hid (w6.ownsRow w.heap.size 46 3 (.slice a' 0 cap') 0 (aT7 [])):=HO6.out;clear HADD;go_wp2_with fail;go_quiet (fail);obtain⟨w7,hw7⟩:∃w7,w7=w6.drewN nq:=⟨_,rfl⟩
     have hb7:Below w6.heap.size w6 w7:=by rw[hw7];exact aD (Br _ _) _
     rw[←hw7];have HO7:=Hd (aPl HO6.out hb7);have HB7:=Hd (aA HB6.out hb7);have HS7:=Hd HB7.out.size;have K7:=Hd (KX6.out.below hb7);have y0:=(K7.out.cell 0).trans (show _=some (.int .i64 xd) from rfl);have y1:=(K7.out.cell 1).trans (show _=some (.string xn) from rfl);have y2:=(K7.out.cell 2).trans (show _=some (.string xm) from rfl);clear hw7 hb7;go_wp2_with (at_builtin;refine wpList_append_own_at _ rfl _ _ 50 rfl w.heap.size 46 i0 aVm 3 40 Tryz.underlying50 HINF.out.1 HINF.out.2.1 HINF.out.2.2.1 HINF.out.2.2.2 rfl (by decide) _ _ _ rfl (HO7.out.alloc _) ⟨w7.heap.size,0,none⟩ 1 1 [.int .i64 xd,.string xn,.string xm] rfl rfl (fun j u hj=>aUb w7 #[.int .i64 xd,.string xn,.string xm] _ j u hj) (by simp[Value.oneCell']) (by unfold maxLen;omega) (by omega) (by have:=HS7.out;simp;omega) ?_);intro v' w9 hown' hgrow _ _;have HB9:=Hd (Ut (HO7.out.alloc (.cells #[.int .i64 xd,.string xn,.string xm] 46)) hgrow (aA HB7.out (aB _ _)) (by have:=HS7.out;simp;omega));have HO9:Hid (w9.ownsRow w.heap.size 46 3 v' (L (k+1)).length (aT7 (L (k+1)))):=by
      show World.ownsRow _ _ _ _ _ _ _;rw[HNEXT.out,aU3,HQN.out.2];simpa using hown'
     clear hgrow hown';go_wp2;go_roundw
     case rel=>exact⟨k+1,by omega,by go_num,HO9,HB9⟩
     case measure=>simp[intOf];omega
    ·have hll:(l' ++ [p]).length=l'.length+1:=by simp
     rw[hll] at HO6 HLK ⊢;obtain⟨g,cap,hv,hg,hcell,hfz⟩:=aV3 HO6.out (Nat.succ_pos _);injection hv with e1 _ e2
     subst e1 e2;have hgd:w6.cell? ⟨g,l'.length*3,none⟩=some (.int .i64 p.day):=hcell _ _ (aTu l' p).1;have hml:l'.length+1≤1000000:=by have:=HLK.out;omega
     by_cases hd:p.day=xd
     ·have HNEXT:Hid (L (k+1)=l' ++ [qn]):=by show _=_;rw[HADD.out,aKl (by rw[HQN.out.1];exact hd)]
      clear HADD;rw[hd] at hgd;go_wp2_with fail;go_quiet (fail);obtain⟨w7,hw7⟩:∃w7,w7=w6.drewN nq:=⟨_,rfl⟩
      have hb7:Below w6.heap.size w6 w7:=by rw[hw7];exact aD (Br _ _) _
      rw[←hw7];have HO7:=Hd (aPl HO6.out hb7);have HB7:=Hd (aA HB6.out hb7);have HS7:=Hd HB7.out.size;have K7:=Hd (KX6.out.below hb7);have y0:=(K7.out.cell 0).trans (show _=some (.int .i64 xd) from rfl);have y1:=(K7.out.cell 1).trans (show _=some (.string xn) from rfl);have y2:=(K7.out.cell 2).trans (show _=some (.string xm) from rfl);obtain⟨g2,cap2,hv2,hg2,hcell2,hfz2⟩:=aV3 HO7.out (Nat.succ_pos _);injection hv2 with e1 _ e2
      injection e1 with e1
      injection e1 with e1 _ _
      subst e1 e2;have z0:=hcell2 _ _ (aTu l' p).1;have z1:=hcell2 _ _ (aTu l' p).2.1;have z2:=hcell2 _ _ (aTu l' p).2.2;have f0:=hfz2 (l'.length*3);have f1:=hfz2 (l'.length*3+1);have f2:=hfz2 (l'.length*3+2);clear hw7 hb7 hcell hfz hcell2 hfz2 hgd;go_wp2_with fail;go_roundw
      case rel =>
       obtain⟨s1,r1⟩:=aVv (j:=l'.length*3) HO7.out (.int .i64 xd);obtain⟨s2,r2⟩:=aVv (j:=l'.length*3+1) s1 (.string xn);obtain⟨s3,r3⟩:=aVv (j:=l'.length*3+2) s2 (.string xm);refine⟨k+1,by omega,by go_num,?_,?_⟩
       ·show World.ownsRow _ _ _ _ _ _ _;rw[HNEXT.out,←HLAST.out l' p,show (l' ++ [qn]).length=l'.length+1 by simp];exact s3
       ·exact((HB7.out.setCell (p:=⟨g,l'.length*3,none⟩) hg _).setCell (p:=⟨g,l'.length*3+1,none⟩) hg _).setCell (p:=⟨g,l'.length*3+2,none⟩) hg _
      case measure=>simp[intOf];omega
     ·have HNEXT:Hid (L (k+1)=(l' ++ [p]) ++ [qn]):=by show _=_;rw[HADD.out,aKm (by rw[HQN.out.1];exact hd)]
      clear HADD;have hd':(p.day==xd)=false:=by simpa using hd
      generalize p.day=pq at *;go_wp2_with fail;go_quiet (fail);obtain⟨w7,hw7⟩:∃w7,w7=w6.drewN nq:=⟨_,rfl⟩
      have hb7:Below w6.heap.size w6 w7:=by rw[hw7];exact aD (Br _ _) _
      rw[←hw7];have HO7:=Hd (aPl HO6.out hb7);have HB7:=Hd (aA HB6.out hb7);have HS7:=Hd HB7.out.size;have K7:=Hd (KX6.out.below hb7);have y0:=(K7.out.cell 0).trans (show _=some (.int .i64 xd) from rfl);have y1:=(K7.out.cell 1).trans (show _=some (.string xn) from rfl);have y2:=(K7.out.cell 2).trans (show _=some (.string xm) from rfl);clear hw7 hb7 hcell hfz hgd;go_wp2_with (at_builtin;refine wpList_append_own_at _ rfl _ _ 50 rfl w.heap.size 46 i0 aVm 3 40 Tryz.underlying50 HINF.out.1 HINF.out.2.1 HINF.out.2.2.1 HINF.out.2.2.2 rfl (by decide) _ _ _ rfl (HO7.out.alloc _) ⟨w7.heap.size,0,none⟩ 1 1 [.int .i64 xd,.string xn,.string xm] rfl rfl (fun j u hj=>aUb w7 #[.int .i64 xd,.string xn,.string xm] _ j u hj) (by simp[Value.oneCell']) (by unfold maxLen;omega) (by omega) (by have:=HS7.out;simp;omega) ?_);intro v' w9 hown' hgrow _ _;have HB9:=Hd (Ut (HO7.out.alloc (.cells #[.int .i64 xd,.string xn,.string xm] 46)) hgrow (aA HB7.out (aB _ _)) (by have:=HS7.out;simp;omega));have HO9:Hid (w9.ownsRow w.heap.size 46 3 v' (L (k+1)).length (aT7 (L (k+1)))):=by
       show World.ownsRow _ _ _ _ _ _ _;rw[HNEXT.out,aU3,HQN.out.2];simpa using hown'
      clear hgrow hown';go_wp2;go_roundw
      case rel=>exact⟨k+1,by omega,by go_num,HO9,HB9⟩
      case measure=>simp[intOf];omega
  ·obtain rfl:k=xs.length:=by omega
   have hoe:=HO.out;rw[HLE.out] at hoe;have HOE:=Hd hoe;clear hoe HO;go_wp2;go_ret;exact⟨⟨_,rfl,HOE.out⟩,HB.out⟩
end
section
open Go Go.RowKit Num
theorem aWh{l:List aJv}{d:Int}(h:∀(j:Nat) y,l[j]?=some y→aKf d y=false):(aPv d l).getLast?=none:=by
 have:aPv d l=[]:=List.filter_eq_nil_iff.2 fun y hy=>by
  obtain⟨j,hj⟩:=List.getElem?_of_mem hy;rw[h j y hj];decide
 rw[this];rfl
theorem aWn{l:List aJv}{d:Int}{m:Nat}{x:aJv}(hx:l[m]?=some x)(hu:aKf d x=true)(h:∀(j:Nat) y,m+1≤j→l[j]?=some y→aKf d y=false):(aPv d l).getLast?=some x:=by
 have e:l=l.take m++x::l.drop (m+1):=by
  obtain⟨hm,rfl⟩:=Li.1 hx;rw[←List.drop_eq_getElem_cons hm,List.take_append_drop]
 have h2:(l.drop (m+1)).filter (aKf d)=[]:=List.filter_eq_nil_iff.2 fun y hy=>by
  obtain⟨j,hj⟩:=List.getElem?_of_mem hy;rw[List.getElem?_drop] at hj;rw[h _ y (by omega) hj];decide
 rw[e];unfold aPv;rw[List.filter_append,List.filter_cons,if_pos hu,h2,List.getLast?_append];simp
theorem aU4(xs:List aF)(a:Option Addr)(c:Nat)(ins:List UInt8)(d:Int)(w:World)(hn:xs.length≤1000000)(hr:fS w a xs):
  Calls Tryz.prog 66 #[.slice a xs.length c,.string ⟨ins.toArray⟩,.int .i64 d] w fun e w'=>e=.returned (.tuple #[.agg (aOx (QV (aJ0 (xs.map aF.f) ins d))),.bool (aJ0 (xs.map aF.f) ins d).isSome])∧Below w.heap.size w w':=by
 have HB0:=Hd (aB w (.cells Z3 46));have KR:=Hd (aP.new0 w Z3 46);have HSE:=Hd (aUu xs a c ins (w.alloc (.cells Z3 46)) hn (hr.below HB0.out));have HLT:=Hd (aV6 (xs.map aF.f) ins d);have HLEN:Hid ((ser ins (xs.map aF.f)).length≤1000000):=by have h1:=aLw ins (xs.map aF.f);rw[List.length_map] at h1;show _≤_;omega
 have HSQ:Hid (∀q,(Tryz.prog.info? 46).map (·.size)=some (aOx q).size):=fun _=>aPm
 have HONE:Hid (∀q,(aOx q).all (·.oneCell')=true):=aPw;have HS3:Hid (∀q,Z3.size=(aOx q).size):=fun _=>rfl
 clear hr;obtain⟨o,ho⟩:∃o,o=aJ0 (xs.map aF.f) ins d:=⟨_,rfl⟩
 obtain⟨L,hL⟩:∃L,L=ser ins (xs.map aF.f):=⟨_,rfl⟩
 rw[←ho,←hL] at HLT;rw[←hL] at HSE HLEN;rw[←ho];clear ho hL;generalize xs.length=n at *;go_enter Tryz.func66,Tryz.ntmps66;go_wp2_with fail;refine HSE.out.mono ?_;rintro e w1 ⟨⟨v1,rfl,ho1⟩,hb⟩;have HB1:=Hd (aA HB0.out hb);have KR1:=Hd (KR.out.below hb);obtain⟨a1,c1,rfl,hr1⟩:=gK ho1;have HR1:=Hd (aUo hr1);have hll:=HLEN.out;clear hb ho1 hr1 HSE HB0 KR;go_wp2_with fail;go_loopw [9] (fun iv wr=>∃k:Nat,k≤L.length∧iv=.int .i64 ((k:Int)-1)∧Hid (∀j y,k≤j→L[j]?=some y→aKf d y=false)∧Hid (Below w1.heap.size w1 wr)) (fun iv _=>(intOf iv+1).toNat)
 case atStart=>exact⟨L.length,Nl _,by go_num,fun j y h1 h2=>absurd (Li.1 h2).1 (by omega),Br _ _⟩
 case round =>
  obtain⟨k,hk,rfl,HN,HBa⟩:=hrel;cases k with
  |zero =>
   have HV:Hid (o=none):=by show _=_;rw[HLT.out];exact aWh (fun j y h=>HN.out j y (Nat.zero_le _) h)
   have KRr:=Hd (KR1.out.below HBa.out);have HBr:=Hd (aA HB1.out HBa.out);clear HN HLT;go_wp2_with (refine aOw rfl 46 _ _ rfl w.heap.size rfl #[.int .i64 0,.string ⟨#[]⟩,.string ⟨#[]⟩] rfl KRr.out (HSQ.out (QV none)) (HS3.out (QV none)) (HONE.out (QV none)) ?_;intro w4 kx bx _ _;have HB4:=Hd (HBr.out.trans (bx _ (Nl _)));have KX4:=Hd kx;clear kx bx);refine bodyPost_ret (fX rfl _ _ _ _ _ (0,0) _ rfl KX4.out.2 Tryz.underlying46 rfl (HSQ.out (QV none))) rfl ?_;exact⟨by rw[HV.out];rfl,HB4.out⟩
  |succ m =>
   obtain⟨x,hx⟩:∃x,L[m]?=some x:=⟨L[m],Lg (by omega)⟩
   obtain⟨bb,off,rfl,hbl,hcc⟩:=(HR1.out.below HBa.out).addr (k:=m) (cs:=aUp x) (by rw[List.getElem?_map,hx];rfl);have HC:Hid (∀j v,(aOx x).toList[j]?=some v→wr.cell? ⟨bb,off+m*3+j,none⟩=some v):=hcc;have c0:wr.cell? ⟨bb,off+m*3,none⟩=some (.int .i64 x.day):=hcc 0 _ rfl;have hm1:((m+1:Nat):Int)-1=(m:Int):=by omega
   rw[hm1];have HUP:Hid (aKf d x=decide (x.day≤d)):=rfl;have HX:=Hd hx;have hml:m<L.length:=by omega
   by_cases hu:x.day≤d
   ·have HV:Hid (o=some x):=by show _=_;rw[HLT.out];exact aWn HX.out (by rw[HUP.out];exact decide_eq_true hu) HN.out
    have KRr:=Hd (KR1.out.below HBa.out);have HBr:=Hd (aA HB1.out HBa.out);have HXS:=Hd (HSQ.out x);have HX1:=Hd (HONE.out x);have HX3:=Hd (HS3.out x);obtain⟨qx,hqx⟩:∃qx,qx=aOx x:=⟨_,rfl⟩
    have HQX:=Hd hqx;rw[←hqx] at HC HXS HX1 HX3;clear HN HLT hcc hx hqx HUP HX;generalize x.day=xd at *;go_wp2_with (first|(refine aM rfl 46 _ rfl bb (off+m*3) rfl qx _ HC.out Tryz.underlying46 rfl HXS.out ?_)|(refine aOw rfl 46 _ _ rfl w.heap.size rfl qx rfl KRr.out HXS.out HX3.out HX1.out ?_;intro w4 kx bx _ _;have HB4:=Hd (HBr.out.trans (bx _ (Nl _)));have KX4:=Hd kx;clear kx bx));refine bodyPost_ret (fX rfl _ _ _ _ _ (0,0) _ rfl KX4.out.2 Tryz.underlying46 rfl HXS.out) rfl ?_;exact⟨by rw[HV.out,HQX.out];rfl,HB4.out⟩
   ·have HN2:Hid (∀j y,m≤j→L[j]?=some y→aKf d y=false):=fun j y hj hy=>by
     by_cases e:j=m
     ·subst e;rw[HX.out] at hy;obtain rfl:=Option.some.inj hy;rw[HUP.out];exact decide_eq_false hu
     ·exact HN.out j y (by omega) hy
    clear HN HLT hcc hx HUP HX HC;generalize x.day=xd at *;go_wp2_with fail;go_roundw
    case rel=>exact⟨m,by omega,by go_num,HN2,HBa⟩
    case measure=>simp[intOf]
theorem aVl(xs:List aF)(a:Option Addr)(c:Nat)(d:Int)(w:World)(hn:xs.length≤1000000)(hcap:xs.length≤c)(hr:fS w a xs)(hok:∀x,x∈xs→x.f.tight):
  Calls Tryz.prog 65 #[.slice a xs.length c,.int .i64 d] w fun e w'=>e=.returned (.int .i64 (aPk (xs.map aF.f) 0 [d]))∧Below w.heap.size w w':=by
 have HV:=Hd (Fp xs a c w hn hcap hr hok);have HPV:Hid (aPk (xs.map aF.f) 0 [d]=if dF (xs.map aF.f)≠0 then 1 else if d < -25567∨84005<d then 13 else 0):=by
  show _=_;unfold aPk
  by_cases h:dF (xs.map aF.f)=0
  ·have h1:¬ dF (xs.map aF.f)≠0:=by simpa using h
   rw[if_neg h1,if_neg h1]
   by_cases hd:d < -25567∨84005<d
   ·have h2:[d].all aPt=false:=by simp[aPt];omega
    rw[if_pos hd,if_pos h2]
   ·have h2:¬ [d].all aPt=false:=by simp[aPt];omega
    have h3:¬ (0:Int)<0:=by decide
    rw[if_neg hd,if_neg h2,if_neg h3]
  ·rw[if_pos h,if_pos h]
 clear hn hcap hr hok;generalize aPk (xs.map aF.f) 0 [d]=pe at *;generalize dF (xs.map aF.f)=ve at *;generalize xs.length=n at *;go_enter Tryz.func65,Tryz.ntmps65;go_wp2_with fail;refine HV.out.mono ?_;rintro e w1 ⟨rfl,hb⟩;have HB1:=Hd hb;clear hb HV
 by_cases hv:ve=0
 ·subst hv;have HP2:Hid (pe=if d < -25567∨84005<d then 13 else 0):=by show _=_;rw[HPV.out,if_neg (by simp)]
  clear HPV;go_wp2_with fail;refine(We d w1).mono ?_;rintro e w2 ⟨rfl,rfl⟩
  by_cases hd:d < -25567∨84005<d
  ·have HP3:Hid (pe=13):=by show _=_;rw[HP2.out,if_pos hd]
   rw[if_pos hd];clear HP2;go_wp2;go_ret;exact⟨by rw[HP3.out];rfl,HB1.out⟩
  ·have HP3:Hid (pe=0):=by show _=_;rw[HP2.out,if_neg hd]
   rw[if_neg hd];clear HP2;go_wp2;go_ret;exact⟨by rw[HP3.out];rfl,HB1.out⟩
 ·have hv':(ve==0)=false:=by simpa using hv
  have HP3:Hid (pe=1):=by show _=_;rw[HPV.out,if_pos hv]
  clear HPV;go_wp2;go_ret;exact⟨by rw[HP3.out];rfl,HB1.out⟩
end
section
open Go Go.RowKit Num
theorem aV5(fs:List aE)(d stale:Int):aPk fs stale [d]=if aPk fs 0 [d]=0 then(if stale<0 then 2 else 0) else aPk fs 0 [d]:=by
 unfold aPk
 by_cases h:dF fs=0
 ·have h1:¬ dF fs≠0:=by simpa using h
  have h3:¬ (0:Int)<0:=by decide
  simp only[if_neg h1,if_neg h3];cases h2:[d].all aPt <;> simp
 ·have h1:dF fs≠0:=h;simp only[if_pos h1];simp
theorem aV8(xs:List aF)(a:Option Addr)(c:Nat)(ins:List UInt8)(d stale:Int)(w:World)(hn:xs.length≤1000000)(hr:fS w a xs)(hv:dF (xs.map aF.f)=0)(hd:aPt d=true):
  Calls Tryz.prog 68 #[.slice a xs.length c,.string ⟨ins.toArray⟩,.int .i64 d,.int .i64 stale] w fun e w'=>e=.returned (.tuple #[.agg (aPf (FV (aL1 (xs.map aF.f) ins d stale))),.bool (aL1 (xs.map aF.f) ins d stale).isSome])∧Below w.heap.size w w':=by
 have HLA:Hid (∀W,Below w.heap.size w W→Calls Tryz.prog 66 #[.slice a xs.length c,.string ⟨ins.toArray⟩,.int .i64 d] W fun e w'=>e=.returned (.tuple #[.agg (aOx (QV (aJ0 (xs.map aF.f) ins d))),.bool (aJ0 (xs.map aF.f) ins d).isSome])∧Below W.heap.size W w'):=fun W hb=>aU4 xs a c ins d W hn (hr.below hb)
 have HFV:Hid (aL1 (xs.map aF.f) ins d stale=match aJ0 (xs.map aF.f) ins d with|some q=>if stale<d-q.day then none else some q.price|none=>none):=rfl;have HLD:Hid (∀q,aJ0 (xs.map aF.f) ins d=some q→-25567≤q.day∧q.day≤84005):=fun q h=>aQ6 hv h
 have HDD:=Hd (aSx.1 hd);have HB0:=Hd (aB w (.cells Z2 28));have KR:=Hd (aP.new0 w Z2 28);have HSQ:Hid (∀q,(Tryz.prog.info? 46).map (·.size)=some (aOx q).size):=fun _=>aPm
 have HONE:Hid (∀q,(aOx q).all (·.oneCell')=true):=aPw;have HS3:Hid (∀q,Z3.size=(aOx q).size):=fun _=>rfl
 have HSF:Hid (∀f,(Tryz.prog.info? 28).map (·.size)=some (aPf f).size):=fun _=>aPp
 have HONF:Hid (∀f,(aPf f).all (·.oneCell')=true):=aP0;have HS2:Hid (∀f,Z2.size=(aPf f).size):=fun _=>rfl
 clear hr hv hd;generalize aL1 (xs.map aF.f) ins d stale=fo at *;generalize aJ0 (xs.map aF.f) ins d=o at *;generalize xs.length=n at *;go_enter Tryz.func68,Tryz.ntmps68;go_wp2_with fail;refine(HLA.out _ HB0.out).mono ?_;rintro e w2 ⟨rfl,hb⟩;have HB2:=Hd (aA HB0.out hb);have KR2:=Hd (KR.out.below hb);have HN2:=Hd (aB w2 (.cells Z3 46));have KN2:=Hd (aP.new0 w2 Z3 46);have HNE:Hid (w.heap.size≠w2.heap.size):=by have:=KR2.out.1;show _≠_;omega
 clear hb HLA HB0 KR;cases o with
 |none =>
  have HV:Hid (fo=none):=HFV.out;clear HFV HLD;simp only[Option.isSome_none];go_wp2_with (first|(refine aOw rfl 46 _ _ rfl w2.heap.size rfl (aOx (QV none)) rfl KN2.out (HSQ.out _) (HS3.out _) (HONE.out _) ?_;intro w3 kx bx kot _;have HB3:=Hd (aA HB2.out (HN2.out.trans (bx _ (Nl _))));have KX3:=Hd kx;have KR3:=Hd (kot _ _ _ HNE.out (KR2.out.below HN2.out));clear kx bx kot)|(refine aOw rfl 28 _ _ rfl w.heap.size rfl #[.string ⟨#[]⟩,.string ⟨#[]⟩] rfl KR3.out (HSF.out (FV none)) (HS2.out (FV none)) (HONF.out (FV none)) ?_;intro w4 kx bx _ _;have HB4:=Hd (HB3.out.trans (bx _ (Nl _)));have KX4:=Hd kx;clear kx bx));refine bodyPost_ret (fX rfl _ _ _ _ _ (0,0) _ rfl KX4.out.2 Tryz.underlying28 rfl (HSF.out (FV none))) rfl ?_;exact⟨by rw[HV.out];rfl,HB4.out⟩
 |some q =>
  have HDQ:=Hd (HLD.out q rfl);have HW:Hid (wrap64 (d-q.day)=d-q.day):=by have h1:=HDQ.out;have h2:=HDD.out;show _=_;unfold wrap64;omega
  have HFV2:Hid (fo=if stale<d-q.day then none else some q.price):=HFV.out;have HQC:Hid ((aOx (QV (some q)))[0]?=some (.int .i64 q.day)∧(aOx (QV (some q)))[1]?=some (.string ⟨q.price.n.toArray⟩)∧(aOx (QV (some q)))[2]?=some (.string ⟨q.price.d.toArray⟩)):=⟨rfl,rfl,rfl⟩
  have HPF:Hid (aPf (FV (some q.price))=#[.string ⟨q.price.n.toArray⟩,.string ⟨q.price.d.toArray⟩]):=rfl;clear HFV HLD HDD HDQ;simp only[Option.isSome_some];have HSA:Hid ((Tryz.prog.info? 46).map (·.size)=some (aOx (QV (some q))).size):=aPm;have HONA:=Hd (aPw (QV (some q)));have HS3A:Hid (Z3.size=(aOx (QV (some q))).size):=rfl;generalize aOx (QV (some q))=qa at *;generalize q.day=qd at *;have hw:=HW.out;clear HW
  by_cases hs:stale<d-qd
  ·have HV:Hid (fo=none):=by show _=_;rw[HFV2.out,if_pos hs]
   clear HFV2;go_wp2_with (first|(refine aOw rfl 46 _ _ rfl w2.heap.size rfl qa rfl KN2.out HSA.out HS3A.out HONA.out ?_;intro w3 kx bx kot _;have HB3:=Hd (aA HB2.out (HN2.out.trans (bx _ (Nl _))));have KX3:=Hd kx;have KR3:=Hd (kot _ _ _ HNE.out (KR2.out.below HN2.out));have q0:=(kx.cell 0).trans HQC.out.1;have q1:=(kx.cell 1).trans HQC.out.2.1;have q2:=(kx.cell 2).trans HQC.out.2.2;clear kx bx kot)|(refine aOw rfl 28 _ _ rfl w.heap.size rfl #[.string ⟨#[]⟩,.string ⟨#[]⟩] rfl KR3.out (HSF.out (FV none)) (HS2.out (FV none)) (HONF.out (FV none)) ?_;intro w4 kx bx _ _;have HB4:=Hd (HB3.out.trans (bx _ (Nl _)));have KX4:=Hd kx;clear kx bx));refine bodyPost_ret (fX rfl _ _ _ _ _ (0,0) _ rfl KX4.out.2 Tryz.underlying28 rfl (HSF.out (FV none))) rfl ?_;exact⟨by rw[HV.out];rfl,HB4.out⟩
  ·have HV:Hid (fo=some q.price):=by show _=_;rw[HFV2.out,if_neg hs]
   clear HFV2;go_wp2_with (first|(refine aOw rfl 46 _ _ rfl w2.heap.size rfl qa rfl KN2.out HSA.out HS3A.out HONA.out ?_;intro w3 kx bx kot _;have HB3:=Hd (aA HB2.out (HN2.out.trans (bx _ (Nl _))));have KX3:=Hd kx;have KR3:=Hd (kot _ _ _ HNE.out (KR2.out.below HN2.out));have q0:=(kx.cell 0).trans HQC.out.1;have q1:=(kx.cell 1).trans HQC.out.2.1;have q2:=(kx.cell 2).trans HQC.out.2.2;clear kx bx kot)|(refine aOw rfl 28 _ _ rfl w.heap.size rfl #[.string ⟨q.price.n.toArray⟩,.string ⟨q.price.d.toArray⟩] rfl KR3.out (HSF.out (FV (some q.price))) (HS2.out (FV (some q.price))) (HONF.out (FV (some q.price))) ?_;intro w4 kx bx _ _;have HB4:=Hd (HB3.out.trans (bx _ (Nl _)));have KX4:=Hd kx;clear kx bx));refine bodyPost_ret (fX rfl _ _ _ _ _ (0,0) _ rfl KX4.out.2 Tryz.underlying28 rfl (HSF.out (FV (some q.price)))) rfl ?_;exact⟨by rw[HV.out];rfl,HB4.out⟩
theorem aWb(xs:List aF)(a:Option Addr)(c:Nat)(ins:List UInt8)(d:Int)(w:World)(hn:xs.length≤1000000)(hcap:xs.length≤c)(hr:fS w a xs)(hok:∀x,x∈xs→x.f.tight):
  Calls Tryz.prog 29 #[.slice a xs.length c,.string ⟨ins.toArray⟩,.int .i64 d] w fun e w'=>e=.returned (.tuple #[.agg (aOx (QV (aPz (xs.map aF.f) ins d))),.bool (aPz (xs.map aF.f) ins d).isSome,.int .i64 (aPk (xs.map aF.f) 0 [d])])∧Below w.heap.size w w':=by
 have HLA:Hid (∀W,Below w.heap.size w W→Calls Tryz.prog 66 #[.slice a xs.length c,.string ⟨ins.toArray⟩,.int .i64 d] W fun e w'=>e=.returned (.tuple #[.agg (aOx (QV (aJ0 (xs.map aF.f) ins d))),.bool (aJ0 (xs.map aF.f) ins d).isSome])∧Below W.heap.size W w'):=fun W hb=>aU4 xs a c ins d W hn (hr.below hb)
 have HB0:=Hd (aB w (.cells Z3 46));have HPC:=Hd (aVl xs a c d (w.alloc (.cells Z3 46)) hn hcap (hr.below HB0.out) hok);have KR:=Hd (aP.new0 w Z3 46);have HLV:Hid (aPz (xs.map aF.f) ins d=if aPk (xs.map aF.f) 0 [d]=0 then aJ0 (xs.map aF.f) ins d else none):=rfl;have HSQ:Hid (∀q,(Tryz.prog.info? 46).map (·.size)=some (aOx q).size):=fun _=>aPm
 have HONE:Hid (∀q,(aOx q).all (·.oneCell')=true):=aPw;have HS3:Hid (∀q,Z3.size=(aOx q).size):=fun _=>rfl
 clear hr hcap hok hn;generalize aPz (xs.map aF.f) ins d=lo at *;generalize aJ0 (xs.map aF.f) ins d=o at *;generalize aPk (xs.map aF.f) 0 [d]=pe at *;generalize xs.length=n at *;go_enter Tryz.func29,Tryz.ntmps29;go_wp2_with fail;refine HPC.out.mono ?_;rintro e w1 ⟨rfl,hb⟩;have HB1:=Hd (aA HB0.out hb);have KR1:=Hd (KR.out.below hb);clear hb HPC KR HB0
 by_cases he:pe=0
 ·subst he;have HV:Hid (lo=o):=by show _=_;rw[HLV.out];simp
  clear HLV;go_wp2_with fail;refine(HLA.out _ HB1.out).mono ?_;rintro e w2 ⟨rfl,hb⟩;have HB2:=Hd (aA HB1.out hb);have KR2:=Hd (KR1.out.below hb);have HN2:=Hd (aB w2 (.cells Z3 46));have KN2:=Hd (aP.new0 w2 Z3 46);have HNE:Hid (w.heap.size≠w2.heap.size):=by have:=KR2.out.1;show _≠_;omega
  clear hb HLA HB1 KR1;go_wp2_with (first|(refine aOw rfl 46 _ _ rfl w2.heap.size rfl (aOx (QV o)) rfl KN2.out (HSQ.out _) (HS3.out _) (HONE.out _) ?_;intro w3 kx bx kot _;have HB3:=Hd (aA HB2.out (HN2.out.trans (bx _ (Nl _))));have KX3:=Hd kx;have KR3:=Hd (kot _ _ _ HNE.out (KR2.out.below HN2.out));clear kx bx kot)|(refine wpList_load_row rfl 46 _ rfl w2.heap.size rfl 46 (aOx (QV o)) (0,0) _ KX3.out.2 Tryz.underlying46 rfl (HSQ.out _) ?_;simp only[pS])|(refine aOw rfl 46 _ _ rfl w.heap.size rfl (aOx (QV o)) rfl KR3.out (HSQ.out _) (HS3.out _) (HONE.out _) ?_;intro w4 kx bx _ _;have HB4:=Hd (HB3.out.trans (bx _ (Nl _)));have KX4:=Hd kx;clear kx bx));refine bodyPost_ret (aP8 rfl _ _ _ _ _ (0,0) _ rfl KX4.out.2 Tryz.underlying46 rfl (HSQ.out _)) rfl ?_;exact⟨by rw[HV.out];rfl,HB4.out⟩
 ·have he':(pe==0)=false:=by simpa using he
  have HV:Hid (lo=none):=by show _=_;rw[HLV.out,if_neg he]
  have HZ:Hid (aOx (QV none)=#[.int .i64 0,.string ⟨#[]⟩,.string ⟨#[]⟩]):=rfl;clear HLV HLA;go_wp2_with (refine aOw rfl 46 _ _ rfl w.heap.size rfl #[.int .i64 0,.string ⟨#[]⟩,.string ⟨#[]⟩] rfl KR1.out (HSQ.out (QV none)) (HS3.out (QV none)) (HONE.out (QV none)) ?_;intro w4 kx bx _ _;have HB4:=Hd (HB1.out.trans (bx _ (Nl _)));have KX4:=Hd kx;clear kx bx);refine bodyPost_ret (aP8 rfl _ _ _ _ _ (0,0) _ rfl KX4.out.2 Tryz.underlying46 rfl (HSQ.out (QV none))) rfl ?_;exact⟨by rw[HV.out];rfl,HB4.out⟩
theorem aWf(xs:List aF)(a:Option Addr)(c:Nat)(ins:List UInt8)(d stale:Int)(w:World)(hn:xs.length≤1000000)(hcap:xs.length≤c)(hr:fS w a xs)(hok:∀x,x∈xs→x.f.tight):
  Calls Tryz.prog 31 #[.slice a xs.length c,.string ⟨ins.toArray⟩,.int .i64 d,.int .i64 stale] w fun e w'=>e=.returned (.tuple #[.agg (aPf (FV (aQp (xs.map aF.f) ins d stale))),.int .i64 (aP4 (xs.map aF.f) ins d stale)])∧Below w.heap.size w w':=by
 have HFR:Hid (aPk (xs.map aF.f) stale [d]=0→∀W,Below w.heap.size w W→Calls Tryz.prog 68 #[.slice a xs.length c,.string ⟨ins.toArray⟩,.int .i64 d,.int .i64 stale] W fun e w'=>e=.returned (.tuple #[.agg (aPf (FV (aL1 (xs.map aF.f) ins d stale))),.bool (aL1 (xs.map aF.f) ins d stale).isSome])∧Below W.heap.size W w'):=fun h W hb=>aV8 xs a c ins d stale W hn (hr.below hb) (aPx h).1 (by have:=(aPx h).2.1;simpa using this)
 have HB0:=Hd (aB w (.cells Z2 28));have HPC:=Hd (aVl xs a c d (w.alloc (.cells Z2 28)) hn hcap (hr.below HB0.out) hok);have KR:=Hd (aP.new0 w Z2 28);have HPS:=Hd (aV5 (xs.map aF.f) d stale);have HLV:Hid (aQp (xs.map aF.f) ins d stale=if aPk (xs.map aF.f) stale [d]=0 then aL1 (xs.map aF.f) ins d stale else none):=rfl;have HEV:Hid (aP4 (xs.map aF.f) ins d stale=if aPk (xs.map aF.f) stale [d]=0 then(if(aL1 (xs.map aF.f) ins d stale).isSome=true then 0 else 17) else aPk (xs.map aF.f) stale [d]):=rfl;have HSF:Hid (∀f,(Tryz.prog.info? 28).map (·.size)=some (aPf f).size):=fun _=>aPp
 have HONF:Hid (∀f,(aPf f).all (·.oneCell')=true):=aP0;have HS2:Hid (∀f,Z2.size=(aPf f).size):=fun _=>rfl
 clear hr hcap hok hn;generalize aQp (xs.map aF.f) ins d stale=lo at *;generalize aP4 (xs.map aF.f) ins d stale=le at *;generalize aL1 (xs.map aF.f) ins d stale=o at *;generalize aPk (xs.map aF.f) stale [d]=pe at *;generalize aPk (xs.map aF.f) 0 [d]=p0 at *;generalize xs.length=n at *;go_enter Tryz.func31,Tryz.ntmps31;go_wp2_with fail;refine HPC.out.mono ?_;rintro e w1 ⟨rfl,hb⟩;have HB1:=Hd (aA HB0.out hb);have KR1:=Hd (KR.out.below hb);clear hb HPC KR HB0
 by_cases hp:p0=0
 ·subst hp
  by_cases hs0:stale<0
  ·have hpe:pe=2:=by rw[HPS.out];simp[hs0]
   have he:¬ pe=0:=by rw[hpe];decide
   have HV:Hid (lo=none):=by show _=_;rw[HLV.out,if_neg he]
   have HV2:Hid (le=pe):=by show _=_;rw[HEV.out,if_neg he]
   clear HLV HEV HFR;subst hpe;go_wp2_with (refine aOw rfl 28 _ _ rfl w.heap.size rfl #[.string ⟨#[]⟩,.string ⟨#[]⟩] rfl KR1.out (HSF.out (FV none)) (HS2.out (FV none)) (HONF.out (FV none)) ?_;intro w4 kx bx _ _;have HB4:=Hd (HB1.out.trans (bx _ (Nl _)));have KX4:=Hd kx;clear kx bx);refine bodyPost_ret (fX rfl _ _ _ _ _ (0,0) _ rfl KX4.out.2 Tryz.underlying28 rfl (HSF.out (FV none))) rfl ?_;exact⟨by rw[HV.out,HV2.out];rfl,HB4.out⟩
  ·have he:pe=0:=by rw[HPS.out];simp[hs0]
   subst he;have HFR2:=Hd (HFR.out rfl);have HV:Hid (lo=o):=by show _=_;rw[HLV.out];simp
   have HV2:Hid (le=if o.isSome=true then 0 else 17):=by show _=_;rw[HEV.out];simp
   clear HLV HEV HFR;go_wp2_with fail;refine(HFR2.out _ HB1.out).mono ?_;rintro e w2 ⟨rfl,hb⟩;have HB2:=Hd (aA HB1.out hb);have KR2:=Hd (KR1.out.below hb);have HN2:=Hd (aB w2 (.cells Z2 28));have KN2:=Hd (aP.new0 w2 Z2 28);have HNE:Hid (w.heap.size≠w2.heap.size):=by have:=KR2.out.1;show _≠_;omega
   clear hb HFR2 HB1 KR1;cases o with
   |none =>
    simp only[Option.isSome_none];have HV3:Hid (le=17):=HV2.out;go_wp2_with (first|(refine aOw rfl 28 _ _ rfl w2.heap.size rfl (aPf (FV none)) rfl KN2.out (HSF.out _) (HS2.out _) (HONF.out _) ?_;intro w3 kx bx kot _;have HB3:=Hd (aA HB2.out (HN2.out.trans (bx _ (Nl _))));have KX3:=Hd kx;have KR3:=Hd (kot _ _ _ HNE.out (KR2.out.below HN2.out));clear kx bx kot)|(refine aOw rfl 28 _ _ rfl w.heap.size rfl #[.string ⟨#[]⟩,.string ⟨#[]⟩] rfl KR3.out (HSF.out (FV none)) (HS2.out (FV none)) (HONF.out (FV none)) ?_;intro w4 kx bx _ _;have HB4:=Hd (HB3.out.trans (bx _ (Nl _)));have KX4:=Hd kx;clear kx bx));refine bodyPost_ret (fX rfl _ _ _ _ _ (0,0) _ rfl KX4.out.2 Tryz.underlying28 rfl (HSF.out (FV none))) rfl ?_;exact⟨by rw[HV.out,HV3.out];rfl,HB4.out⟩
   |some p =>
    simp only[Option.isSome_some];have HV3:Hid (le=0):=HV2.out;go_wp2_with (first|(refine aOw rfl 28 _ _ rfl w2.heap.size rfl (aPf (FV (some p))) rfl KN2.out (HSF.out _) (HS2.out _) (HONF.out _) ?_;intro w3 kx bx kot _;have HB3:=Hd (aA HB2.out (HN2.out.trans (bx _ (Nl _))));have KX3:=Hd kx;have KR3:=Hd (kot _ _ _ HNE.out (KR2.out.below HN2.out));clear kx bx kot)|(refine wpList_load_row rfl 28 _ rfl w2.heap.size rfl 28 (aPf (FV (some p))) (0,0) _ KX3.out.2 Tryz.underlying28 rfl (HSF.out _) ?_;simp only[pS])|(refine aOw rfl 28 _ _ rfl w.heap.size rfl (aPf (FV (some p))) rfl KR3.out (HSF.out _) (HS2.out _) (HONF.out _) ?_;intro w4 kx bx _ _;have HB4:=Hd (HB3.out.trans (bx _ (Nl _)));have KX4:=Hd kx;clear kx bx));refine bodyPost_ret (fX rfl _ _ _ _ _ (0,0) _ rfl KX4.out.2 Tryz.underlying28 rfl (HSF.out _)) rfl ?_;exact⟨by rw[HV.out,HV3.out];rfl,HB4.out⟩
 ·have hp':(p0==0)=false:=by simpa using hp
  have hpe:pe=p0:=by rw[HPS.out,if_neg hp]
  have he:¬ pe=0:=by rw[hpe];exact hp
  have HV:Hid (lo=none):=by show _=_;rw[HLV.out,if_neg he]
  have HV2:Hid (le=pe):=by show _=_;rw[HEV.out,if_neg he]
  clear HLV HEV HFR;subst hpe;go_wp2_with (refine aOw rfl 28 _ _ rfl w.heap.size rfl #[.string ⟨#[]⟩,.string ⟨#[]⟩] rfl KR1.out (HSF.out (FV none)) (HS2.out (FV none)) (HONF.out (FV none)) ?_;intro w4 kx bx _ _;have HB4:=Hd (HB1.out.trans (bx _ (Nl _)));have KX4:=Hd kx;clear kx bx);refine bodyPost_ret (fX rfl _ _ _ _ _ (0,0) _ rfl KX4.out.2 Tryz.underlying28 rfl (HSF.out (FV none))) rfl ?_;exact⟨by rw[HV.out,HV2.out];rfl,HB4.out⟩
theorem aV9(xs:List aF)(a:Option Addr)(c:Nat)(ins:List UInt8)(w:World)(hn:xs.length≤1000000)(hcap:xs.length≤c)(hr:fS w a xs)(hok:∀x,x∈xs→x.f.tight):
  Calls Tryz.prog 33 #[.slice a xs.length c,.string ⟨ins.toArray⟩] w fun e w'=>(∃v,e=.returned (.tuple #[v,.int .i64 (aPk (xs.map aF.f) 0 [])])∧w'.ownsRow w.heap.size 46 3 v (aUn (xs.map aF.f) ins).length (aT7 (aUn (xs.map aF.f) ins)))∧Below w.heap.size w w':=by
 have HV:=Hd (Fp xs a c w hn hcap hr hok);have HSO:=Hd (fun W (hb:Below w.heap.size w W)=>aUu xs a c ins W hn (hr.below hb));have HPV:Hid (aPk (xs.map aF.f) 0 []=if dF (xs.map aF.f)=0 then 0 else 1):=by
  show _=_;unfold aPk
  by_cases h:dF (xs.map aF.f)=0 <;> simp[h]
 have HSV:Hid (aUn (xs.map aF.f) ins=if aPk (xs.map aF.f) 0 []=0 then ser ins (xs.map aF.f) else[]):=rfl;clear hn hcap hr hok;generalize aUn (xs.map aF.f) ins=sv at *;generalize ser ins (xs.map aF.f)=L at *;generalize aPk (xs.map aF.f) 0 []=pe at *;generalize dF (xs.map aF.f)=ve at *;generalize xs.length=n at *;go_enter Tryz.func33,Tryz.ntmps33;go_wp2_with fail;refine HV.out.mono ?_;rintro e w1 ⟨rfl,hb⟩;have HB1:=Hd hb;clear hb HV
 by_cases hv:ve=0
 ·subst hv;have HP:Hid (pe=0):=HPV.out;have HS:Hid (sv=L):=by show _=_;rw[HSV.out,if_pos HP.out]
  clear HPV HSV;go_wp2_with fail;refine(HSO.out _ HB1.out).mono ?_;rintro e w2 ⟨⟨v,rfl,ho⟩,hb⟩;have HB2:=Hd (aA HB1.out hb);have HO:=Hd (Ck ho HB1.out.size);clear ho hb HSO;go_wp2;go_ret2;exact⟨⟨_,by rw[HP.out];rfl,by rw[HS.out];exact HO.out⟩,HB2.out⟩
 ·have hv':(ve==0)=false:=by simpa using hv
  have HP:Hid (pe=1):=by show _=_;rw[HPV.out,if_neg hv]
  have HS:Hid (sv=[]):=by show _=_;rw[HSV.out,HP.out,if_neg (by decide)]
  clear HPV HSV HSO;go_wp2;go_ret2;exact⟨⟨_,by rw[HP.out];rfl,by rw[HS.out];exact World.ownsRow_nil _ _ _ _⟩,HB1.out⟩
end
section
open Go Go.RowKit Num
theorem aWe(l:List aJv)(a a2:Option Addr)(c c2:Nat)(w:World)(hn:l.length≤1000000)(hr:gJ w a 3 (l.map aUp))(hr2:gJ w a2 3 (l.map aUp)):
  Calls Tryz.prog 34 #[.slice a l.length c,.slice a2 l.length c2] w fun e w'=>e=.returned (.bool true)∧Below w.heap.size w w':=by
 have HR:=Hd hr;have HR2:=Hd hr2;clear hr hr2;go_enter Tryz.func34,Tryz.ntmps34;go_wp2_with fail;go_loopw [13] (fun iv wr=>∃k:Nat,k≤l.length∧iv=.int .i64 k∧Hid (Below w.heap.size w wr)) (fun iv _=>l.length-(intOf iv).toNat)
 case atStart=>exact⟨0,Nat.zero_le _,rfl,Br _ _⟩
 case round =>
  obtain⟨k,hk,rfl,HB⟩:=hrel
  by_cases hlt:k<l.length
  ·obtain⟨x,hx⟩:∃x,l[k]?=some x:=⟨l[k],Lg hlt⟩
   obtain⟨b,off,rfl,_,hc⟩:=(HR.out.below HB.out).addr (k:=k) (cs:=aUp x) (by rw[List.getElem?_map,hx];rfl);obtain⟨b2,off2,rfl,_,hc2⟩:=(HR2.out.below HB.out).addr (k:=k) (cs:=aUp x) (by rw[List.getElem?_map,hx];rfl);have r0:wr.cell? ⟨b,off+k*3,none⟩=some (.int .i64 x.day):=hc 0 _ rfl;have r1:wr.cell? ⟨b,off+k*3+1,none⟩=some (.string ⟨x.price.n.toArray⟩):=hc 1 _ rfl;have r2:wr.cell? ⟨b,off+k*3+2,none⟩=some (.string ⟨x.price.d.toArray⟩):=hc 2 _ rfl;have s0:wr.cell? ⟨b2,off2+k*3,none⟩=some (.int .i64 x.day):=hc2 0 _ rfl;have s1:wr.cell? ⟨b2,off2+k*3+1,none⟩=some (.string ⟨x.price.n.toArray⟩):=hc2 1 _ rfl;have s2:wr.cell? ⟨b2,off2+k*3+2,none⟩=some (.string ⟨x.price.d.toArray⟩):=hc2 2 _ rfl;clear hc hc2 hx;generalize x.day=xd at *;generalize(⟨x.price.n.toArray⟩:ByteArray)=xn at *;generalize(⟨x.price.d.toArray⟩:ByteArray)=xm at *;go_wp2_with fail;go_quiet (fail);go_wp2;go_roundw
   case rel=>exact⟨k+1,by omega,by go_num,Hd (aD HB.out _)⟩
   case measure=>simp[intOf];omega
  ·obtain rfl:k=l.length:=by omega
   go_wp2;go_ret;exact⟨rfl,HB.out⟩
theorem aWc(xs:List aF)(a:Option Addr)(c:Nat)(ins:List UInt8)(w:World)(hE:iE w)(hv:gT w a c xs):
  Calls Tryz.prog 32 #[.slice a xs.length c,.string ⟨ins.toArray⟩] w fun e w'=>(∃v,e=.returned (.tuple #[v,.int .i64 (aPk (xs.map aF.f) 0 [])])∧w'.ownsRow w.heap.size 46 3 v (aUn (xs.map aF.f) ins).length (aT7 (aUn (xs.map aF.f) ins)))∧Below w.heap.size w w':=by
 by_cases he:aPk (xs.map aF.f) 0 []=0
 ·refine(aUz xs a c ins w hE hv he).mono ?_;rintro e w' ⟨⟨v,rfl,ho⟩,hb⟩;unfold aUn;rw[if_pos he,he];exact⟨⟨v,rfl,ho⟩,hb⟩
 ·refine(aWg xs a c ins w hE hv he).mono ?_;rintro e w' ⟨rfl,hb⟩;unfold aUn;rw[if_neg he];exact⟨⟨_,rfl,World.ownsRow_nil _ _ _ _⟩,hb⟩
theorem aWm(fs:List aE)(ins:List UInt8):(aUn fs ins).length≤fs.length:=by
 unfold aUn;split
 ·exact aLw ins fs
 ·simp
theorem aVk(xs:List aF)(ins:List UInt8)(d stale:Int)(a:Option Addr)(c:Nat)(w:World)(hE:iE w)(hn:xs.length≤9223372036854775807)(hcap:xs.length≤c)(hr:fS w a xs)(hf:∀x,x∈xs→x.fits):
  Calls Tryz.prog 5 #[.slice a xs.length c,.string ⟨ins.toArray⟩,.int .i64 d,.int .i64 stale] w fun e w'=>e=.returned (.bool true)∧Below w.heap.size w w':=by
 have HG:=Hd (aQw xs a c w hn hr hf);have HAW:Hid (∀W,Below w.heap.size w W→Calls Tryz.prog 12 #[] W fun e w'=>e=.returned (.bool true)∧Below W.heap.size W w'):=fun W hb=>aQe W (hE.below hb)
 have HE:=Hd hE;have HR:=Hd hr;have HF:=Hd hf;have HC:=Hd hcap;clear hE hr hf hcap;go_enter Tryz.func5,Tryz.ntmps5;go_wp2_with fail;refine HG.out.mono ?_;rintro e w1 ⟨⟨g,rfl,hg⟩,hb⟩;have HB1:=Hd hb;have HGG:=Hd hg;clear hb hg HG;cases g with
 |true =>
  go_wp2_with fail;refine(HAW.out _ HB1.out).mono ?_;rintro e wz ⟨rfl,hb⟩;go_wp2;go_ret;exact⟨rfl,aA HB1.out hb⟩
 |false =>
  have HFI:=Hd (HGG.out rfl);clear HGG;have hl3:xs.length≤1003:=by rcases HFI.out.2 with h|h <;> omega
  have hV:gT w a c xs:=⟨HR.out,fun y hy=>⟨(HFI.out.1 y hy).small,(HF.out y hy).picks⟩,by omega⟩
  obtain⟨fs,hfs⟩:∃fs,fs=xs.map aF.f:=⟨_,rfl⟩
  have HL1:Hid (∀W,Below w.heap.size w W→Calls Tryz.prog 28 #[.slice a xs.length c,.string ⟨ins.toArray⟩,.int .i64 d] W fun e w'=>e=.returned (.tuple #[.agg (aOx (QV (aPz fs ins d))),.bool (aPz fs ins d).isSome,.int .i64 (aPk fs 0 [d])])∧Below W.heap.size W w'):=fun W hb=>by rw[hfs];exact aQo xs a c ins d W (HE.out.below hb) (hV.below hb)
  have HL2:Hid (∀W,Below w.heap.size w W→Calls Tryz.prog 29 #[.slice a xs.length c,.string ⟨ins.toArray⟩,.int .i64 d] W fun e w'=>e=.returned (.tuple #[.agg (aOx (QV (aPz fs ins d))),.bool (aPz fs ins d).isSome,.int .i64 (aPk fs 0 [d])])∧Below W.heap.size W w'):=fun W hb=>by rw[hfs];exact aWb xs a c ins d W (by omega) HC.out (HR.out.below hb) HFI.out.1
  have HF1:Hid (∀W,Below w.heap.size w W→Calls Tryz.prog 30 #[.slice a xs.length c,.string ⟨ins.toArray⟩,.int .i64 d,.int .i64 stale] W fun e w'=>e=.returned (.tuple #[.agg (aPf (FV (aQp fs ins d stale))),.int .i64 (aP4 fs ins d stale)])∧Below W.heap.size W w'):=fun W hb=>by rw[hfs];exact aQt xs a c ins d stale W (HE.out.below hb) (hV.below hb)
  have HF2:Hid (∀W,Below w.heap.size w W→Calls Tryz.prog 31 #[.slice a xs.length c,.string ⟨ins.toArray⟩,.int .i64 d,.int .i64 stale] W fun e w'=>e=.returned (.tuple #[.agg (aPf (FV (aQp fs ins d stale))),.int .i64 (aP4 fs ins d stale)])∧Below W.heap.size W w'):=fun W hb=>by rw[hfs];exact aWf xs a c ins d stale W (by omega) HC.out (HR.out.below hb) HFI.out.1
  have HS1:Hid (∀W,Below w.heap.size w W→Calls Tryz.prog 32 #[.slice a xs.length c,.string ⟨ins.toArray⟩] W fun e w'=>(∃v,e=.returned (.tuple #[v,.int .i64 (aPk fs 0 [])])∧w'.ownsRow W.heap.size 46 3 v (aUn fs ins).length (aT7 (aUn fs ins)))∧Below W.heap.size W w'):=fun W hb=>by rw[hfs];exact aWc xs a c ins W (HE.out.below hb) (hV.below hb)
  have HS2:Hid (∀W,Below w.heap.size w W→Calls Tryz.prog 33 #[.slice a xs.length c,.string ⟨ins.toArray⟩] W fun e w'=>(∃v,e=.returned (.tuple #[v,.int .i64 (aPk fs 0 [])])∧w'.ownsRow W.heap.size 46 3 v (aUn fs ins).length (aT7 (aUn fs ins)))∧Below W.heap.size W w'):=fun W hb=>by rw[hfs];exact aV9 xs a c ins W (by omega) HC.out (HR.out.below hb) HFI.out.1
  have HLEN:Hid ((aUn fs ins).length≤1000000):=by have h:=aWm fs ins;rw[hfs,List.length_map] at h;show (aUn fs ins).length≤_;rw[hfs];omega
  have HQC:Hid (∀q:aJv,(aOx q)[0]?=some (.int .i64 q.day)∧(aOx q)[1]?=some (.string ⟨q.price.n.toArray⟩)∧(aOx q)[2]?=some (.string ⟨q.price.d.toArray⟩)):=fun _=>⟨rfl,rfl,rfl⟩
  have HFC:Hid (∀f,(aPf f)[0]?=some (.string ⟨f.n.toArray⟩)∧(aPf f)[1]?=some (.string ⟨f.d.toArray⟩)):=fun _=>⟨rfl,rfl⟩
  have HSQ:Hid (∀q,(Tryz.prog.info? 46).map (·.size)=some (aOx q).size):=fun _=>aPm
  have HONE:Hid (∀q,(aOx q).all (·.oneCell')=true):=aPw;have HS3:Hid (∀q,Z3.size=(aOx q).size):=fun _=>rfl
  have HSF:Hid (∀f,(Tryz.prog.info? 28).map (·.size)=some (aPf f).size):=fun _=>aPp
  have HONF:Hid (∀f,(aPf f).all (·.oneCell')=true):=aP0;have HSZ:Hid (∀f,Z2.size=(aPf f).size):=fun _=>rfl
  clear HE HR HF HC HFI hV hfs hl3;generalize aPz fs ins d=o at *;generalize aQp fs ins d stale=f at *;generalize aP4 fs ins d stale=fe at *;generalize aPk fs 0 [d]=pd at *;generalize aPk fs 0 []=pn at *;generalize aUn fs ins=L at *;generalize xs.length=n at *;go_wp2_with fail;refine(HL1.out _ HB1.out).mono ?_;rintro e w2 ⟨rfl,hb⟩;have HB2:=Hd (aA HB1.out hb);have HN2:=Hd (aB w2 (.cells Z3 46));have KN2:=Hd (aP.new0 w2 Z3 46);clear hb HB1 HL1;go_wp2_with (refine aOw rfl 46 _ _ rfl w2.heap.size rfl (aOx (QV o)) rfl KN2.out (HSQ.out _) (HS3.out _) (HONE.out _) ?_;intro w3 kx bx _ hs3;have hb8:=HN2.out.trans (bx _ (Nl _));have HB3:=Hd (aA HB2.out hb8);have Ka_3:=Hd kx;clear kx bx hb8 hs3);clear HN2 KN2 HB2;refine(HL2.out _ HB3.out).mono ?_;rintro e w4 ⟨rfl,hb⟩;have HB4:=Hd (aA HB3.out hb);have Ka_4:=Hd (Ka_3.out.below hb);have HN4:=Hd (aB w4 (.cells Z3 46));have KN4:=Hd (aP.new0 w4 Z3 46);clear hb HB3 HL2 Ka_3;go_wp2_with (refine aOw rfl 46 _ _ rfl w4.heap.size rfl (aOx (QV o)) rfl KN4.out (HSQ.out _) (HS3.out _) (HONE.out _) ?_;intro w5 kx bx _ hs5;have hb8:=HN4.out.trans (bx _ (Nl _));have HB5:=Hd (aA HB4.out hb8);have Ka_5:=Hd (Ka_4.out.below hb8);have Kb_5:=Hd kx;clear kx bx hb8 hs5);clear HN4 KN4 HB4 Ka_4;refine(HF1.out _ HB5.out).mono ?_;rintro e w6 ⟨rfl,hb⟩;have HB6:=Hd (aA HB5.out hb);have Ka_6:=Hd (Ka_5.out.below hb);have Kb_6:=Hd (Kb_5.out.below hb);have HN6:=Hd (aB w6 (.cells Z2 28));have KN6:=Hd (aP.new0 w6 Z2 28);clear hb HB5 HF1 Ka_5 Kb_5;go_wp2_with (refine aOw rfl 28 _ _ rfl w6.heap.size rfl (aPf (FV f)) rfl KN6.out (HSF.out _) (HSZ.out _) (HONF.out _) ?_;intro w7 kx bx _ hs7;have hb8:=HN6.out.trans (bx _ (Nl _));have HB7:=Hd (aA HB6.out hb8);have Ka_7:=Hd (Ka_6.out.below hb8);have Kb_7:=Hd (Kb_6.out.below hb8);have Kc_7:=Hd kx;clear kx bx hb8 hs7);clear HN6 KN6 HB6 Ka_6 Kb_6;refine(HF2.out _ HB7.out).mono ?_;rintro e w8 ⟨rfl,hb⟩;have HB8:=Hd (aA HB7.out hb);have Ka_8:=Hd (Ka_7.out.below hb);have Kb_8:=Hd (Kb_7.out.below hb);have Kc_8:=Hd (Kc_7.out.below hb);have HN8:=Hd (aB w8 (.cells Z2 28));have KN8:=Hd (aP.new0 w8 Z2 28);clear hb HB7 HF2 Ka_7 Kb_7 Kc_7;go_wp2_with (refine aOw rfl 28 _ _ rfl w8.heap.size rfl (aPf (FV f)) rfl KN8.out (HSF.out _) (HSZ.out _) (HONF.out _) ?_;intro w9 kx bx _ hs9;have hb8:=HN8.out.trans (bx _ (Nl _));have HB9:=Hd (aA HB8.out hb8);have Ka_9:=Hd (Ka_8.out.below hb8);have Kb_9:=Hd (Kb_8.out.below hb8);have Kc_9:=Hd (Kc_8.out.below hb8);have Kd_9:=Hd kx;clear kx bx hb8 hs9);clear HN8 KN8 HB8 Ka_8 Kb_8 Kc_8;refine(HS1.out _ HB9.out).mono ?_;rintro e w10 ⟨⟨v10,rfl,ho10⟩,hb⟩;have HB10:=Hd (aA HB9.out hb);have Ka_10:=Hd (Ka_9.out.below hb);have Kb_10:=Hd (Kb_9.out.below hb);have Kc_10:=Hd (Kc_9.out.below hb);have Kd_10:=Hd (Kd_9.out.below hb);obtain⟨a10,c10,rfl,hr10⟩:=gK ho10;have HR10:=Hd (aUo hr10);clear hb ho10 hr10 HS1 HB9 Ka_9 Kb_9 Kc_9 Kd_9;go_wp2_with fail;refine(HS2.out _ HB10.out).mono ?_;rintro e w11 ⟨⟨v11,rfl,ho11⟩,hb⟩;have HB11:=Hd (aA HB10.out hb);have Ka_11:=Hd (Ka_10.out.below hb);have Kb_11:=Hd (Kb_10.out.below hb);have Kc_11:=Hd (Kc_10.out.below hb);have Kd_11:=Hd (Kd_10.out.below hb);obtain⟨a11,c11,rfl,hr11⟩:=gK ho11;have HEQ:=Hd (aWe L a10 a11 c10 c11 w11 HLEN.out (HR10.out.below hb) (aUo hr11));clear hb ho11 hr11 HS2 HB10 HR10 Ka_10 Kb_10 Kc_10 Kd_10;have x0:=(Ka_11.out.cell 0).trans (HQC.out (QV o)).1;have x1:=(Ka_11.out.cell 1).trans (HQC.out (QV o)).2.1;have x2:=(Ka_11.out.cell 2).trans (HQC.out (QV o)).2.2;have y0:=(Kb_11.out.cell 0).trans (HQC.out (QV o)).1;have y1:=(Kb_11.out.cell 1).trans (HQC.out (QV o)).2.1;have y2:=(Kb_11.out.cell 2).trans (HQC.out (QV o)).2.2;have p0:=(Kc_11.out.cell 0).trans (HFC.out (FV f)).1;have p1:=(Kc_11.out.cell 1).trans (HFC.out (FV f)).2;have q0:=(Kd_11.out.cell 0).trans (HFC.out (FV f)).1;have q1:=(Kd_11.out.cell 1).trans (HFC.out (FV f)).2;clear HQC HFC HSQ HONE HS3 HSF HONF HSZ Ka_11 Kb_11 Kc_11 Kd_11 HLEN;generalize(QV o).day=od at *;generalize(⟨(QV o).price.n.toArray⟩:ByteArray)=on at *;generalize(⟨(QV o).price.d.toArray⟩:ByteArray)=om at *;generalize(⟨(FV f).n.toArray⟩:ByteArray)=fn at *;generalize(⟨(FV f).d.toArray⟩:ByteArray)=fm at *;generalize o.isSome=is at *;generalize L.length=ll at *;go_wp2_with fail;refine HEQ.out.mono ?_;rintro e w12 ⟨rfl,hb⟩;have HB12:=Hd (aA HB11.out hb);clear hb HEQ HB11;go_wp2_with fail;refine(HAW.out _ HB12.out).mono ?_;rintro e wz ⟨rfl,hb⟩;go_wp2;go_ret;exact⟨rfl,aA HB12.out hb⟩
end
end Go.Proofs.YtejkibnaidiklaaGreatDoor
