/- Late -/
import Derived.Test.YtbcebibkpfklnaaGreatDoorJChoice
import Derived.Test.YtbcebibkpfklnaaGreatDoorJKeys
import Derived.Maps.AppendAt
set_option maxHeartbeats 16000000
set_option maxRecDepth 100000
namespace Go.Proofs.YtbcebibkpfklnaaGreatDoor
open Go Go.RowKit Go.Shelf Num
theorem late1_any (x:FactV) (w:World) :
  Calls Tryz.prog 47 #[.agg x.arr] w fun e w'=>e = .returned (.bool (decide (x.f.kind=11)))∧Below w.heap.size w w':=by
 have KX:=Box.new0 w x.arr 30
 have x4:=(KX.cell 4).trans (show _=some (.int .i64 x.f.kind) from rfl)
 have HB0:=Lib.hid (below_alloc w (.cells x.arr 30))
 clear KX
 generalize x.arr=xc at *
 generalize x.f.kind=k at *
 by_cases h1:k=11
 ·subst h1
  go_enter Tryz.func47,Tryz.ntmps47
  go_wp2
  go_ret
  exact ⟨rfl,HB0.out⟩
 ·have h1':(k == 11)=false:=by simpa using h1
  have h1'':decide (k=11)=false:=by simpa using h1
  rw [h1'']
  go_enter Tryz.func47,Tryz.ntmps47
  go_wp2
  go_ret
  exact ⟨rfl,HB0.out⟩
theorem infoStr:(Tryz.prog.info? 9).map (fun i=>(i.zero,i.size,i.bytes))=some (some (.string ⟨#[]⟩),1,16):=by kernel_rfl
theorem appendedK {P:Nat→Prop} {W w1:World} {n₀ B:Nat} {t e:TypeId} {size:Nat} {v v':Value} {k m:Nat} {xs ys:List Value} {tmp:Obj} (hv:Boxed W B t v) (hte:t ≠ e) (hrow:W.ownsRow n₀ e size v k xs) (hn₀:n₀≤W.heap.size) (hP:∀ j,P j→j < n₀∧j ≠ B)
  (hown':w1.ownsRow n₀ e size v' m ys) (hgrow:(W.alloc tmp).grownBy w1 v.ownBlock) :
  Boxed w1 B t v∧Boxed (w1.setCell ⟨B,0,none⟩ v') B t v'∧(w1.setCell ⟨B,0,none⟩ v').ownsRow n₀ e size v' m ys∧KeepsOthers W (w1.setCell ⟨B,0,none⟩ v')∧Kept P W (w1.setCell ⟨B,0,none⟩ v'):=by
 have hv1:Boxed w1 B t v:=(hv.alloc tmp).kept hgrow (hv.not_row hte hrow)
 refine ⟨hv1,hv1.set v',hown'.kept (grownBy_setCell' w1 B v') (.inr (hv1.not_row hte hown').symm),?_,?_⟩
 ·refine ((KeepsOthers.alloc W tmp).trans (KeepsOthers.of_grownBy hgrow fun j o ej hj => ?_)).trans (KeepsOthers.setCell _ _ _)
  rcases (hrow.alloc tmp).2 with ⟨rfl,_⟩ | ⟨g,cap,cur,rfl,_,hgb,_⟩
  ·simp [Value.ownBlock] at ej
  ·obtain rfl:g=j:=by simpa [Value.ownBlock] using ej
   rw [hgb] at hj;cases hj;rfl
 ·have h0:Kept P W (W.alloc tmp):=Kept.of_below (below_alloc W tmp) fun j hj=>Nat.lt_of_lt_of_le (hP j hj).1 hn₀
  have h1:Kept P (W.alloc tmp) w1:=⟨hgrow.os,hgrow.tape,hgrow.output,hgrow.size,fun j hj=>hgrow.block j (by rw [World.size_alloc];have:=(hP j hj).1;omega) fun ej=>by
   have:=hrow.lt j ej.symm
   have:=(hP j hj).1
   omega⟩
  exact (h0.trans h1).setCell (fun h=>(hP B h).2 rfl) v'
theorem owns_down {w:World} {b b' e size n:Nat} {v:Value} {xs:List Value} (h:w.ownsRow b e size v n xs) (hb:b'≤b):w.ownsRow b' e size v n xs :=
 ⟨h.1,h.2.imp id fun ⟨g,cap,cur,h1,h2,r⟩=>⟨g,cap,cur,h1,Nat.le_trans hb h2,r⟩⟩
theorem ownFrom_kept {β:Type} {P:Nat→Prop} {B:Nat} {w₀:World} (hP:∀ k,P k→k < w₀.heap.size∧k < B):OwnFrom B (fun (_:β) W=>Kept P w₀ W):=by
 intro _ X Y row hs hg hr
 exact hs.trans ⟨hg.os,hg.tape,hg.output,hg.size,fun k hk=>hg.block k (Nat.lt_of_lt_of_le (hP k hk).1 hs.size) fun e=>by have:=(hr k e.symm).1;have:=(hP k hk).2;omega⟩
def cntV (fs:List FactP) (x:FactP) (pre:List FactV):Bool:=pre.any fun f=>(lastElect fs f.f).any fun y=>y.key == x.key
theorem cntV_snoc (fs:List FactP) (x:FactP) (pre:List FactV) (f:FactV):cntV fs x (pre ++ [f])=(cntV fs x pre || (lastElect fs f.f).any fun y=>y.key == x.key):=by simp [cntV]
theorem cntV_all (xs:List FactV) (x:FactP):cntV (xs.map FactV.f) x (wfil xs (fun y=>decide (y.kind=10)) 0)=counted (xs.map FactV.f) x:=by
 unfold cntV counted
 rw [wfil_zero,List.any_filter,List.any_map]
 rfl
def lateV (fs:List FactP) (pre:List FactV):List (List UInt8):=((pre.map FactV.f).filter fun x => !counted fs x).map FactP.key
theorem lateV_snoc (fs:List FactP) (pre:List FactV) (x:FactV):lateV fs (pre ++ [x])=if counted fs x.f=true then lateV fs pre else lateV fs pre ++ [x.f.key]:=by
 unfold lateV
 rw [List.map_append,List.filter_append,List.map_append]
 cases h:counted fs x.f <;> simp [h]
def lateKeys (fs:List FactP):List (List UInt8):=(lateL fs).map FactP.key
theorem lateV_all (xs:List FactV):lateV (xs.map FactV.f) (wfil xs (fun y=>decide (y.kind=11)) 0)=lateKeys (xs.map FactV.f):=by
 unfold lateV lateKeys lateL
 rw [wfil_zero]
 rw [List.filter_map,List.filter_map,List.filter_filter]
 congr 2
 exact List.filter_congr fun x _=>by simp [Function.comp,Bool.and_comm]
theorem lateV_len (fs:List FactP) (pre:List FactV):(lateV fs pre).length≤pre.length:=by
 unfold lateV
 rw [List.length_map]
 exact Nat.le_trans (List.length_filter_le _ _) (by simp)
theorem any_last (o:Option FactP) (k:List UInt8):(o.any fun y=>y.key == k)=(o.isSome && ((o.map FactP.key).getD [] == k)):=by cases o <;> simp
def lateA (sl:Value) (N o bl bi:Nat) (s5 s6 s7 s15 s16 s17 s18:Value):Array Value:=#[sl,.pointer (some ⟨N,0,none⟩),.slice none 0 0,.int .i64 0,.pointer (some ⟨o,0,none⟩),s5,s6,s7,undef,undef,sl,.int .i64 0,.bool false,sl,.func (.func 74) #[] #[.pointer (some ⟨bl,0,none⟩),.pointer (some ⟨bi,0,none⟩)],s15,s16,s17,s18,undef,undef,undef,undef,undef,undef,undef,undef,undef,undef,undef,undef,undef,undef,undef,undef,undef,undef,undef,undef,undef,undef,undef,undef,undef]
attribute [local go_sem] Oper.semAt_some
theorem late_yes (xs:List FactV) (a:Option Addr) (c:Nat) (w:World) (hE:Env w) (hv:ViewAt w a c xs) (hvc:vcheck (xs.map FactV.f)=0) :
  Calls Tryz.prog 21 #[.slice a xs.length c] w fun e w'=>(∃ v,e = .returned (.tuple #[v,.int .i64 0])∧w'.ownsRow w.heap.size 9 1 v (lateKeys (xs.map FactV.f)).length (strsV (lateKeys (xs.map FactV.f))))∧Below w.heap.size w w':=by
 obtain ⟨i0,hi,hz0,hz1,hz2⟩:=info_parts infoStr
 have HVC:Hid (∀ W,Below w.heap.size w W→Calls Tryz.prog 38 #[.slice a xs.length c] W fun e w'=>e = .returned (.int .i64 0)∧Below W.heap.size W w'):=fun W hbw=>by have:=viewCheck_any xs a c W (hE.below hbw) hv.len (hv.facts.below hbw) hv.ok;rw [hvc] at this;exact this
 have hn:=hv.len
 have HR:=Lib.hid hv.facts
 have HINF:=Lib.hid (And.intro hi (And.intro hz0 (And.intro hz1 hz2)))
 clear hE hv hvc hi hz0 hz1 hz2
 obtain ⟨fs,hfs⟩:∃ fs,fs=xs.map FactV.f:=⟨_,rfl⟩
 have HFS:=Lib.hid hfs
 rw [← hfs]
 clear hfs
 refine (callsIn_wide (n:=12)).1 ?_
 refine callsIn_of_wp_marks Tryz.func21 rfl trivial ?_ rfl
 simp only [Tryz.ntmps21,List.size_toArray,List.length_cons,List.length_nil,Nat.reduceAdd,Nat.reduceSub,Array.replicate_succ,Array.replicate_zero,List.push_toArray,List.append_toArray,List.nil_append,List.cons_append]
 have b1:=below_alloc w (.cells #[.slice a xs.length c] 22)
 have KS:=Lib.hid (Box.new0 w #[.slice a xs.length c] 22)
 have HB0:=Lib.hid b1
 have cS:=KS.out.cell 0
 clear b1
 gi_wp2_with fail
 refine ⟨trivial,(callsIn_wide.2 (HVC.out _ HB0.out)).mono ?_⟩
 rintro e w1 ⟨rfl,hb1⟩
 have KS:=Lib.hid ((KS.out.below hb1).below (below_alloc w1 (.cells #[.slice none 0 0] 45)))
 have KO:=Lib.hid (Box.new0 w1 #[.slice none 0 0] 45)
 have HB1:=Lib.hid (below_up (below_up HB0.out hb1) (below_alloc w1 (.cells #[.slice none 0 0] 45)))
 have HLT:Hid (w.heap.size < w1.heap.size):=by have:=hb1.size;rw [World.size_alloc] at this;exact this
 have cS:=KS.out.cell 0
 have HSZ1:Hid ((w1.alloc (.cells #[.slice none 0 0] 45)).heap.size=w1.heap.size+1):=World.size_alloc _ _
 clear hb1 HVC HB0
 gi_wp2_with fail
 refine ⟨trivial,(callsIn_wide.2 (where_any _ _ _ _ _ _)).mono ?_⟩
 rintro e w3 ⟨bl,bi,rfl,lbl,lbi,kbl,kbi,hb3⟩
 have KS:=Lib.hid (KS.out.below hb3)
 have KO:=Lib.hid (KO.out.below hb3)
 have HB3:=Lib.hid (below_up HB1.out hb3)
 have HW3:Hid (w1.heap.size+1≤w3.heap.size∧w1.heap.size+1≤bl∧w1.heap.size+1≤bi):=by have h1:=HSZ1.out;have h2:=hb3.size;show _∧_;omega
 have KBL:=Lib.hid kbl
 have KBI:=Lib.hid kbi
 clear lbl lbi kbl kbi hb3 HB1 HSZ1 cS
 obtain ⟨o,ho⟩:∃ o,o=w1.heap.size:=⟨_,rfl⟩
 rw [← ho] at KO HW3 HLT ⊢
 clear ho
 obtain ⟨P,hP⟩:∃ P:Nat→Prop,P=fun k=>k < w3.heap.size∧k ≠ o:=⟨_,rfl⟩
 have HPP:Hid (∀ k,P k ↔ k < w3.heap.size∧k ≠ o):=fun k=>by rw [hP]
 clear hP
 have HBW:Hid (∀ W,Kept P w3 W→Below w.heap.size w W):=fun W hW=>HB3.out.trans (hW.below fun k hk=>(HPP.out k).2 ⟨by have:=HB3.out.size;omega,by have:=HLT.out;omega⟩)
 have hg:=gives_where 11 xs a c bl bi 47 #[] (fun y=>decide (y.kind=11)) P w3 hn (enters_of Tryz.func47 (by kernel_rfl) rfl) (fun k hk=>((HPP.out k).1 hk).1) (fun W hW=>by
  have h2:=HW3.out
  exact ⟨HR.out.below (HBW.out W hW),hW.box ((HPP.out bl).2 ⟨KBL.out.1,by omega⟩) KBL.out,hW.box ((HPP.out bi).2 ⟨KBI.out.1,by omega⟩) KBI.out,fun x _ W' _=>late1_any x W'⟩)
 have HG:=Lib.hid hg
 clear hg KBL KBI
 gi_wp2_with fail
 refine wpIn_rangeFunc_ownH (F:=Fence.wide) rfl (by decide) (gf:=74) (lb:=#[.pointer (some ⟨bl,0,none⟩),.pointer (some ⟨bi,0,none⟩)]) rfl trivial (enters_of Tryz.func74 (by kernel_rfl) rfl) HG.out
  (fun h k=>h.trans k) (fun W l o' o'' hl _ _ _=>Kept.putObj W l o'' fun hp=>absurd ((HPP.out l).1 hp).1 (by omega)) (Below.refl _ _) (fun _=>rfl)
  (fun pre W=>(∃ v,Boxed W o 45 v∧W.ownsRow w3.heap.size 9 1 v (lateV fs pre).length (strsV (lateV fs pre))∧True)∧(Kept P w3 W∧w3.heap.size≤W.heap.size))
  (fun _ _ _=>False)
  (OwnFrom.and (Own.from (holdsRow_own w3.heap.size o 45 9 1 (fun pre=>(lateV fs pre).length) (fun pre=>strsV (lateV fs pre)) (fun _ _=>True)) _) (OwnFrom.and (ownFrom_kept (fun k hk=>⟨((HPP.out k).1 hk).1,((HPP.out k).1 hk).1⟩)) (fun _ A B row hs hg _=>Nat.le_trans hs hg.size)))
  (fun _ _ _ _ _ hs _ _=>hs)
  ⟨⟨_,Box.boxed KO.out,World.ownsRow_nil _ _ _ _,trivial⟩,Kept.refl _ _,Nat.le_refl _⟩
  (fun x a' W => ∃ Bx,w3.heap.size≤Bx∧Box W Bx x.arr 30∧a' = { tmps:=lateA (.slice a xs.length c) w.heap.size o bl bi (.pointer (some ⟨Bx,0,none⟩)) undef undef (.agg x.arr) undef undef undef,defers:=[] })
  (fun x a' _ A B row hs hg hr=>by obtain ⟨Bx,h1,h2,h3⟩:=hs;exact ⟨Bx,h1,box_own Bx _ (fun (_:Unit)=>x.arr) () A B row h2 hg (fun r e=>(hr r e).2),h3⟩)
  ?assign ?body ?done ?stop
 case assign =>
  rintro l pre x W K ⟨⟨v,hvb,hvr,_⟩,hk,hsz⟩ hK
  have HN:=Lib.hid (heap_alloc_new W (.cells Z21 30))
  have HBA:=Lib.hid (below_alloc W (.cells Z21 30))
  have HKA:=Lib.hid (KeepsOthers.alloc W (.cells Z21 30))
  have HSX:Hid ((Tryz.prog.info? 30).map (·.size)=some x.arr.size):=factSize x.f x.pa x.oa x.pc x.oc
  have HS21:Hid (Z21.size=x.arr.size):=rfl
  have HONE:=Lib.hid (cells_one x)
  have HKK:=Lib.hid hK
  have HVB:=Lib.hid hvb
  have HVR:=Lib.hid hvr
  have HKP:=Lib.hid hk
  unfold encF
  clear hvb hvr hk hK
  gi_wp2_with (refine wpListIn_store_new (by rfl) 30 _ _ rfl W.heap.size rfl x.arr rfl HN.out HSX.out HS21.out HONE.out ?_;intro w4 kx bx ko kot _)
  have hb4:=HBA.out.trans (bx _ (Nat.le_refl _))
  have hk4:Kept P W w4:=Kept.of_below hb4 (fun k hk=>Nat.lt_of_lt_of_le ((HPP.out k).1 hk).1 hsz)
  have hgr4:=grownBy_of_below hb4
  exact HKK.out _ _ ((HKA.out.trans ko).from _) hk4 ⟨⟨v,HVB.out.kept hgr4 (by simp),HVR.out.kept hgr4 (by cases h:v.ownBlock <;> simp),trivial⟩,HKP.out.trans hk4,Nat.le_trans hsz hb4.size⟩ ⟨W.heap.size,hsz,kx,rfl⟩
 case body =>
  rintro l pre x a' W hl ⟨r,hr⟩ ⟨⟨v,hvb,hvr,_⟩,hkp,hsz⟩ ⟨Bx,hBx,kX,rfl⟩ hlt
  unfold lateA
  have hNP:P w.heap.size:=(HPP.out _).2 ⟨by have:=HLT.out;have:=HW3.out;omega,by have:=HLT.out;omega⟩
  have kS:=hkp.box hNP KS.out
  have cS:=kS.cell 0
  have lN:=kS.1
  have HBN:Hid (∀ W',Below W.heap.size W W'→Below w.heap.size w W'):=fun W' h=>below_up (HBW.out W hkp) h
  have HKP:=Lib.hid hkp
  have HVB:=Lib.hid hvb
  have HVR:=Lib.hid hvr
  have HKX:=Lib.hid kX
  have HRL:=Lib.hid hr
  have hlX:=kX.1
  clear hkp hvb hvr kX hr kS
  gi_wp2_with fail
  refine ⟨trivial,(CallsIn.inRound l (callsIn_wide.2 (where_any _ _ _ _ _ _))).mono ?_⟩
  rintro e w5 ⟨bl2,bi2,rfl,lbl,lbi,kbl,kbi,hb5⟩
  have hbW5:Below W.heap.size W w5:=below_up (below_alloc W (.cells #[.bool false] 4)) hb5
  have kc5:=(Box.new0 W #[.bool false] 4).below hb5
  have h5:W.heap.size+1≤w5.heap.size:=by have:=hb5.size;rw [World.size_alloc] at this;exact this
  have hbl2:W.heap.size+1≤bl2∧W.heap.size+1≤bi2:=by rw [World.size_alloc] at lbl lbi;exact ⟨lbl,lbi⟩
  have hr5:w5.heap[l]? = some (.loop r):=(hbW5.block l (Array.getElem?_eq_some_iff.1 HRL.out).1).trans HRL.out
  obtain ⟨P2,hP2⟩:∃ P2:Nat→Prop,P2=fun k=>k < w5.heap.size∧k ≠ W.heap.size:=⟨_,rfl⟩
  have HPP2:Hid (∀ k,P2 k ↔ k < w5.heap.size∧k ≠ W.heap.size):=fun k=>by rw [hP2]
  clear hP2
  have hg2:=gives_where 9 xs a c bl2 bi2 48 #[] (fun y=>decide (y.kind=10)) P2 w5 hn (enters_of Tryz.func48 (by kernel_rfl) rfl) (fun k hk=>((HPP2.out k).1 hk).1) (fun W' hW' =>
   ⟨HR.out.below (HBN.out W' (hbW5.trans (hW'.below fun k hk=>(HPP2.out k).2 ⟨by omega,by omega⟩))),hW'.box ((HPP2.out bl2).2 ⟨kbl.1,by omega⟩) kbl,hW'.box ((HPP2.out bi2).2 ⟨kbi.1,by omega⟩) kbi,fun x _ W' _=>exchange_any x W'⟩)
  have HG2:=Lib.hid hg2
  have HB5:=Lib.hid hbW5
  have HKC5:=Lib.hid kc5
  clear hg2 hbW5 kc5 lbl lbi kbl kbi hb5 hbl2
  gi_wp2_with fail
  refine wpIn_rangeFunc_ownN (l₀:=l) (r₀:=r) rfl hr5 (by decide) (gf:=74) (lb:=#[.pointer (some ⟨bl2,0,none⟩),.pointer (some ⟨bi2,0,none⟩)]) rfl trivial (enters_of Tryz.func74 (by kernel_rfl) rfl) (HG2.out.inRound l)
   (fun h k=>h.trans k) (fun W l o' o'' hl _ _ _=>Kept.putObj W l o'' fun hp=>absurd ((HPP2.out l).1 hp).1 (by omega)) (Below.refl _ _) (fun _=>rfl)
   (fun pre2 W'=>Box W' W.heap.size #[.bool (cntV fs x.f pre2)] 4∧(Below W.heap.size W W'∧w5.heap.size≤W'.heap.size))
   (fun _ _ _=>False)
   (OwnFrom.and (Own.from (box_own _ _ (fun pre2:List FactV => #[.bool (cntV fs x.f pre2)])) _) (OwnFrom.and (ownFrom_below (Nat.le_refl _) (by omega)) (fun _ A B row hs hg _=>Nat.le_trans hs hg.size)))
   (fun _ _ _ _ _ hs _ _=>hs)
   ⟨HKC5.out,HB5.out,Nat.le_refl _⟩
   (fun f a'' W'' => ∃ B7,w5.heap.size≤B7∧Box W'' B7 f.arr 30∧a'' = { tmps:=lateA (.slice a xs.length c) w.heap.size o bl bi (.pointer (some ⟨Bx,0,none⟩)) (.pointer (some ⟨W.heap.size,0,none⟩)) (.pointer (some ⟨B7,0,none⟩)) (.agg x.arr) (.slice a xs.length c) (.func (.func 74) #[] #[.pointer (some ⟨bl2,0,none⟩),.pointer (some ⟨bi2,0,none⟩)]) (.agg f.arr),defers:=[] })
   (fun f a'' _ A B row hs hg hr=>by obtain ⟨B7,h1,h2,h3⟩:=hs;exact ⟨B7,h1,box_own B7 _ (fun (_:Unit)=>f.arr) () A B row h2 hg (fun r e=>(hr r e).2),h3⟩)
   ?assign2 ?body2 ?done2 ?stop2
  case assign2 =>
   rintro l2 pre2 f W2 K ⟨kc,hbw,hs5⟩ hK
   have HN:=Lib.hid (heap_alloc_new W2 (.cells Z21 30))
   have HBA:=Lib.hid (below_alloc W2 (.cells Z21 30))
   have HKA:=Lib.hid (KeepsOthers.alloc W2 (.cells Z21 30))
   have HSX:Hid ((Tryz.prog.info? 30).map (·.size)=some f.arr.size):=factSize f.f f.pa f.oa f.pc f.oc
   have HS21:Hid (Z21.size=f.arr.size):=rfl
   have HONE:=Lib.hid (cells_one f)
   have HKK:=Lib.hid hK
   have HKC:=Lib.hid kc
   have HBB:=Lib.hid hbw
   unfold encF
   clear kc hbw hK
   gi_wp2_with (refine wpListIn_store_new (by rfl) 30 _ _ rfl W2.heap.size rfl f.arr rfl HN.out HSX.out HS21.out HONE.out ?_;intro w4 kx bx ko kot _)
   have hb4:=HBA.out.trans (bx _ (Nat.le_refl _))
   have hk4:Kept P2 W2 w4:=Kept.of_below hb4 (fun k hk=>Nat.lt_of_lt_of_le ((HPP2.out k).1 hk).1 hs5)
   exact HKK.out _ _ ((HKA.out.trans ko).from _) hk4 ⟨HKC.out.below hb4,below_up HBB.out hb4,Nat.le_trans hs5 hb4.size⟩ ⟨W2.heap.size,hs5,kx,rfl⟩
  case body2 =>
   rintro l2 pre2 f a'' W2 hl2 ⟨r2,hr2⟩ ⟨kc,hbw,hs5⟩ ⟨B7,hB7,k7,rfl⟩ hlt2
   unfold lateA
   have cS2:=(hbw.cell (p:=⟨w.heap.size,0,none⟩) lN).trans cS
   have HK7:=Lib.hid k7
   have HKC:=Lib.hid kc
   have HBB:=Lib.hid hbw
   have HKX2:=Lib.hid (HKX.out.below hbw)
   have HSF:Hid ((Tryz.prog.info? 30).map (·.size)=some f.arr.size):=factSize f.f f.pa f.oa f.pc f.oc
   have HLA:=Lib.hid (last_any xs a c f W2 hn (HR.out.below (HBN.out W2 hbw)))
   have HLK:=Lib.hid (lastArr_key xs f.f)
   have HLS:=Lib.hid (lastArr_size (wfil xs (fun y=>elects y f.f) 0))
   have HL1:=Lib.hid (lastArr_one (wfil xs (fun y=>elects y f.f) 0))
   have HXK:Hid (x.arr[0]? = some (.string ⟨x.f.key.toArray⟩)):=rfl
   have hcn:cntV fs x.f (pre2 ++ [f])=(cntV fs x.f pre2 || ((lastElect fs f.f).isSome && (((lastElect fs f.f).map FactP.key).getD [] == x.f.key))):=by rw [cntV_snoc,any_last]
   have hlf:=last_found xs f.f
   rw [← HFS.out] at hlf HLK
   rw [hlf] at HLA
   have HCN:=Lib.hid hcn
   have hs5':=hs5
   clear kc k7 hr2 hbw hcn hlf hs5
   generalize hcnE:cntV fs x.f (pre2 ++ [f])=cn at *
   have HCNE:=Lib.hid hcnE
   clear hcnE
   generalize cntV fs x.f pre2=cb at *
   generalize (lastElect fs f.f).isSome=lf at *
   generalize ((lastElect fs f.f).map FactP.key).getD []=lk at *
   generalize lastArr (wfil xs (fun y=>elects y f.f) 0)=la at *
   generalize hxk:x.f.key=xk at *
   gi_wp2_with (refine wpListIn_load_row (by rfl) 30 _ rfl B7 rfl f.arr _ HK7.out Tryz.underlying30 rfl HSF.out ?_)
   refine ⟨trivial,(CallsIn.inRound l2 (CallsIn.inRound l (callsIn_wide.2 HLA.out))).mono ?_⟩
   rintro e w6 ⟨rfl,hb6⟩
   have HB6:=Lib.hid hb6
   have HNEW:=Lib.hid (heap_alloc_new w6 (.cells Z21 30))
   have HBA:=Lib.hid (below_alloc w6 (.cells Z21 30))
   have HKA:=Lib.hid (KeepsOthers.alloc w6 (.cells Z21 30))
   have HSL:Hid ((Tryz.prog.info? 30).map (·.size)=some la.size):=by show _=_;rw [HLS.out];exact factInfo21
   have HS21:Hid (Z21.size=la.size):=by show _=_;rw [HLS.out];rfl
   have hsz6:=hb6.size
   clear hb6 HLA cS2
   have hfin:∀ w7,Below w6.heap.size w6 w7→KeepsOthers w6 w7→Box w7 W.heap.size #[.bool cb] 4→ownPostG w5.heap.size (Kept P2) (fun pre2 W'=>Box W' W.heap.size #[.bool (cntV fs x.f pre2)] 4∧(Below W.heap.size W W'∧w5.heap.size≤W'.heap.size)) (fun _ _ _=>False) (pre2 ++ [f]) W2 .normal { tmps:=#[],defers:=[] } (w7.setCell ⟨W.heap.size,0,none⟩ (.bool cn)):=by
    intro w7 hb7 hk7 kb7
    have h27:=below_up HB6.out hb7
    refine ⟨((below_keeps HB6.out).trans (hk7.trans (KeepsOthers.setCell _ _ _))).from _,(Kept.of_below h27 (fun k hk=>Nat.lt_of_lt_of_le ((HPP2.out k).1 hk).1 hs5')).setCell (fun h=>((HPP2.out _).1 h).2 rfl) _,?_,(below_up HBB.out h27).setCell (p:=⟨W.heap.size,0,none⟩) (Nat.le_refl _) _,Nat.le_trans hs5' (Nat.le_trans h27.size (grownBy_setCell' w7 W.heap.size (.bool cn)).size)⟩
    show Box _ _ #[.bool (cntV fs x.f (pre2 ++ [f]))] _
    rw [HCNE.out]
    exact Boxed.box (Boxed.set (.bool cn) (Box.boxed kb7))
   have HFIN:=Lib.hid hfin
   clear hfin
   cases cb with
   | true =>
    have HV:Hid (cn=true):=by show _=_;rw [HCN.out];rfl
    obtain rfl:=HV.out
    clear HCN HV
    gi_wp2_with (refine wpListIn_store_new (by rfl) 30 _ _ rfl w6.heap.size rfl la rfl HNEW.out HSL.out HS21.out HL1.out ?_;intro w7 k8 b8 ko8 kot8 _;have HB7:=Lib.hid (HBA.out.trans (b8 _ (Nat.le_refl _)));have HK7':=Lib.hid (HKA.out.trans ko8);have k60:=(HKC.out.below HB6.out).below HB7.out;have c60:=k60.cell 0;have f60:=Boxed.frozen (Box.boxed k60);have HKB:=Lib.hid k60;clear k8 b8 ko8 kot8 k60)
    exact HFIN.out _ HB7.out HK7'.out HKB.out
   | false =>
    cases lf with
    | false =>
     have HV:Hid (cn=false):=by show _=_;rw [HCN.out];rfl
     obtain rfl:=HV.out
     clear HCN HV
     gi_wp2_with (refine wpListIn_store_new (by rfl) 30 _ _ rfl w6.heap.size rfl la rfl HNEW.out HSL.out HS21.out HL1.out ?_;intro w7 k8 b8 ko8 kot8 _;have HB7:=Lib.hid (HBA.out.trans (b8 _ (Nat.le_refl _)));have HK7':=Lib.hid (HKA.out.trans ko8);have k60:=(HKC.out.below HB6.out).below HB7.out;have c60:=k60.cell 0;have f60:=Boxed.frozen (Box.boxed k60);have HKB:=Lib.hid k60;clear k8 b8 ko8 kot8 k60)
     exact HFIN.out _ HB7.out HK7'.out HKB.out
    | true =>
     cases heq:(lk == xk) with
     | true =>
      have HV:Hid (cn=true):=by show _=_;rw [HCN.out,heq];rfl
      obtain rfl:=HV.out
      clear HCN HV
      gi_wp2_with (refine wpListIn_store_new (by rfl) 30 _ _ rfl w6.heap.size rfl la rfl HNEW.out HSL.out HS21.out HL1.out ?_;intro w7 k8 b8 ko8 kot8 _;have HB7:=Lib.hid (HBA.out.trans (b8 _ (Nat.le_refl _)));have HK7':=Lib.hid (HKA.out.trans ko8);have k60:=(HKC.out.below HB6.out).below HB7.out;have c60:=k60.cell 0;have f60:=Boxed.frozen (Box.boxed k60);have HKB:=Lib.hid k60;have c80:=(k8.cell 0).trans HLK.out;have c50:=(((HKX2.out.below HB6.out).below HB7.out).cell 0).trans HXK.out;clear k8 b8 ko8 kot8 k60)
      exact HFIN.out _ HB7.out HK7'.out HKB.out
     | false =>
      have HV:Hid (cn=false):=by show _=_;rw [HCN.out,heq];rfl
      obtain rfl:=HV.out
      clear HCN HV
      gi_wp2_with (refine wpListIn_store_new (by rfl) 30 _ _ rfl w6.heap.size rfl la rfl HNEW.out HSL.out HS21.out HL1.out ?_;intro w7 k8 b8 ko8 kot8 _;have HB7:=Lib.hid (HBA.out.trans (b8 _ (Nat.le_refl _)));have HK7':=Lib.hid (HKA.out.trans ko8);have k60:=(HKC.out.below HB6.out).below HB7.out;have c60:=k60.cell 0;have f60:=Boxed.frozen (Box.boxed k60);have HKB:=Lib.hid k60;have c80:=(k8.cell 0).trans HLK.out;have c50:=(((HKX2.out.below HB6.out).below HB7.out).cell 0).trans HXK.out;clear k8 b8 ko8 kot8 k60)
      exact HFIN.out _ HB7.out HK7'.out HKB.out
  case done2 =>
   rintro ys W2 rfl ⟨kc,hbw,hs5⟩
   have he:=cntV_all xs x.f
   rw [← HFS.out] at he
   rw [he] at kc
   have HBB:=Lib.hid hbw
   have HKX2:=Lib.hid (HKX.out.below hbw)
   have HKPW:Hid (Kept P W W2):=Kept.of_below hbw (fun k hk=>Nat.lt_of_lt_of_le ((HPP.out k).1 hk).1 hsz)
   have hgr:=grownBy_of_below hbw
   have HVB2:=Lib.hid (HVB.out.kept hgr (by simp))
   have HVR2:=Lib.hid (HVR.out.kept hgr (by cases h:v.ownBlock <;> simp))
   have HSN:=Lib.hid (lateV_snoc fs pre x)
   have HKS:=Lib.hid (below_keeps hbw)
   have hs2:w3.heap.size≤W2.heap.size:=Nat.le_trans hsz hbw.size
   have hll:(lateV fs pre).length+1≤1000000:=by have:=lateV_len fs pre;omega
   have c60:=kc.cell 0
   clear he kc hbw hgr hs5
   cases hct:counted fs x.f with
   | true =>
    rw [hct] at c60
    gi_wp2_with fail
    rw [hct] at HSN
    have e:lateV fs (pre ++ [x])=lateV fs pre:=HSN.out
    exact ⟨HKS.out.from _,HKPW.out,⟨v,HVB2.out,by rw [e];exact HVR2.out,trivial⟩,HKP.out.trans HKPW.out,hs2⟩
   | false =>
    rw [hct] at c60 HSN
    have e:lateV fs (pre ++ [x])=lateV fs pre ++ [x.f.key]:=HSN.out
    have HE:=Lib.hid e
    clear HSN e hct
    have cO:=HVB2.out.cell
    have c50:=(HKX2.out.cell 0).trans (show _=some (.string ⟨x.f.key.toArray⟩) from rfl)
    generalize hLV:lateV fs pre=lv at *
    gi_wp2_with (gi_at_builtin;refine wpListIn_append_own _ rfl _ _ 45 rfl w3.heap.size 9 i0 (.string ⟨#[]⟩) 1 16 Tryz.underlying45 HINF.out.1 HINF.out.2.1 HINF.out.2.2.1 HINF.out.2.2.2 rfl (by decide) _ _ _ rfl (HVR2.out.alloc _) ⟨W2.heap.size,0,none⟩ 1 1 [.string ⟨x.f.key.toArray⟩] rfl rfl (cell_one_new _ _ _) (by simp [Value.oneCell']) (by unfold maxLen;omega) (by omega) (by simp;omega) ?_;intro v' w1 hown' hgrow _;obtain ⟨g',cap',rfl⟩:=ownsRow_succ hown';obtain ⟨hv1,hv2,hr2,hk2,hb2⟩:=appendedK HVB2.out (by decide) HVR2.out hs2 (fun j hj=>(HPP.out j).1 hj) hown' hgrow;have hc1:=hv1.cell;have hf1:=hv1.frozen;have HE1:=Lib.hid hv2;have HE2:=Lib.hid hr2;have HE3:=Lib.hid hk2;have HE4:=Lib.hid hb2;clear hv2 hr2 hk2 hb2 hown' hgrow)
    exact ⟨(HKS.out.trans HE3.out).from _,HKPW.out.trans HE4.out,⟨_,HE1.out,by rw [HE.out];simpa [strsV] using HE2.out,trivial⟩,(HKP.out.trans HKPW.out).trans HE4.out,Nat.le_trans hs2 HE4.out.size⟩
  case stop2 =>
   rintro c pre W _ h
   exact h.elim
 case done =>
  rintro D ys W hD rfl ⟨⟨v,hvb,hvr,_⟩,hk,hsz⟩ hK
  have cO:=hvb.cell
  have HB:=Lib.hid (HBW.out W hk)
  have HK:=Lib.hid hK
  have HVR:=Lib.hid hvr
  have HHD:=Lib.hid hD
  clear hvb hvr hk hK hD
  gi_wp2
  refine ⟨by simp,.inl ⟨_,_,rfl,run_takeDeferred HK.out,?_⟩⟩
  refine ⟨_,results_tmp2 rfl _ _ _,⟨v,rfl,?_⟩,HB.out.trans (belowK_b (w:=w) (Nat.le_refl _) W D _ _ (by have:=HB3.out.size;have:=HHD.out;omega) HK.out rfl rfl)⟩
  have e:=lateV_all xs
  rw [← HFS.out] at e
  rw [← e]
  exact owns_down (ownsRow_putObj HVR.out _ HK.out rfl) HB3.out.size
 case stop =>
  rintro D c pre W _ _ h _
  exact h.elim
end Go.Proofs.YtbcebibkpfklnaaGreatDoor
