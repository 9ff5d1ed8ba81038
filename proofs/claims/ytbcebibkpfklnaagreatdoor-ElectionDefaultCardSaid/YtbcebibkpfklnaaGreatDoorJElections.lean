/- Elections -/
import Derived.Test.YtbcebibkpfklnaaGreatDoorJLate
import Derived.Test.YtbcebibkpfklnaaGreatDoorJRowF
set_option maxHeartbeats 16000000
set_option maxRecDepth 100000
namespace Go.Proofs.YtbcebibkpfklnaaGreatDoor
open Go Go.RowKit Go.Shelf Num
def forKey (key:List UInt8) (y:FactP):Bool:=decide (y.kind=11) && (y.target == key)
theorem elections1_any (x:FactV) (key:List UInt8) (bk:Nat) (w:World) (hb:Box w bk #[.string ⟨key.toArray⟩] 9) :
  Calls Tryz.prog 46 #[.agg x.arr,.pointer (some ⟨bk,0,none⟩)] w fun e w'=>e = .returned (.bool (forKey key x.f))∧Below w.heap.size w w':=by
 have KX:=Box.new0 w x.arr 30
 have x4:=(KX.cell 4).trans (show _=some (.int .i64 x.f.kind) from rfl)
 have x8:=(KX.cell 8).trans (show _=some (.string ⟨x.f.target.toArray⟩) from rfl)
 have ck:=((hb.below (below_alloc w (.cells x.arr 30))).cell 0).trans (show _=some (.string ⟨key.toArray⟩) from rfl)
 have HB0:=Lib.hid (below_alloc w (.cells x.arr 30))
 have HR:Hid (forKey key x.f=(decide (x.f.kind=11) && (x.f.target == key))):=rfl
 clear KX hb
 generalize forKey key x.f=res at *
 generalize x.arr=xc at *
 generalize x.f.kind=k at *
 generalize x.f.target=tg at *
 by_cases h1:k=11
 ·subst h1
  cases h2:(tg == key) with
  | true =>
   have HV:Hid (res=true):=by show _=_;rw [HR.out,h2];rfl
   clear HR
   go_enter Tryz.func46,Tryz.ntmps46
   go_wp2
   go_ret
   exact ⟨by rw [HV.out];rfl,HB0.out⟩
  | false =>
   have HV:Hid (res=false):=by show _=_;rw [HR.out,h2];rfl
   clear HR
   go_enter Tryz.func46,Tryz.ntmps46
   go_wp2
   go_ret
   exact ⟨by rw [HV.out];rfl,HB0.out⟩
 ·have h1':(k == 11)=false:=by simpa using h1
  have HV:Hid (res=false):=by show _=_;rw [HR.out];simp [h1]
  clear HR
  go_enter Tryz.func46,Tryz.ntmps46
  go_wp2
  go_ret
  exact ⟨by rw [HV.out];rfl,HB0.out⟩
theorem run_oneV (fc:Array Value) (hs:fc.size=21) (w:World):(Instr.buildSlice 22 1 #[(0,.agg fc)]).run Tryz.prog w = .ok (.slice (some ⟨w.heap.size,0,none⟩) 1 1) (w.alloc (.cells fc 30)):=by
 obtain ⟨l⟩:=fc
 match l,hs with
 | [a0,a1,a2,a3,a4,a5,a6,a7,a8,a9,a10,a11,a12,a13,a14,a15,a16,a17,a18,a19,a20],_=>simp [go_sem]
theorem wpListIn_slice {F:Fence} {n:Nat} {P:Program} {ops:Array Oper} {Q:Exit→Act→World→Prop} {a:Act} {w w':World} {rest:List Oper} {o:Oper} (hgd:Region.wanted o (yielded ops a.tmps)=true) (t:TypeId) (m:Nat) (ps:Array (Nat × Operand)) (ho:o.op = .buildSlice t m ps) (qs:Array (Nat × Value)) (v:Value)
  (hps:(ps.map fun (i,x)=>(i,a.eval x))=qs) (hrun:(Instr.buildSlice t m qs).run P w = .ok v w') (h:wpListIn F n P ops Q rest (a.put o.dst v) w'):wpListIn F n P ops Q (o :: rest) a w:=by
 refine wpListIn_step fun K hK => ?_
 rw [if_pos hgd]
 refine ⟨fun f hf=>(by unfold Oper.about at hf;rw [ho] at hf;cases hf),?_⟩
 rw [Oper.semAt_plain F _ _ (by rw [ho];intro c hc;cases hc)]
 have e:(execOp a.eval o).run P w = .ok (.value v) w':=by
  unfold execOp
  simp only [ho]
  rw [hps]
  simp [hrun,Result.andThen]
 rw [e]
 exact hK _ _ h
theorem new_cells {W:World} {B:Nat} {fc:Array Value} {T:TypeId} (hB:W.heap[B]? = some (.cells fc T (0,0))):∀ j u,fc.toList[j]? = some u→W.cell? ((⟨B,0,none⟩:Addr).add j)=some u:=by
 intro j u hu
 rw [addr_add,Nat.zero_add,cell_at hB j,← Array.getElem?_toList]
 exact hu
def elecA (sk sl:Value) (N o bl bi:Nat) (s7 s17:Value):Array Value:=#[sl,sk,undef,.pointer (some ⟨N,0,none⟩),.slice none 0 0,.int .i64 0,.pointer (some ⟨o,0,none⟩),s7,sl,.int .i64 0,.bool false,sk,.bool true,.bool false,sl,.func (.func 46) #[] #[.pointer (some ⟨N,0,none⟩)],.func (.func 74) #[] #[.pointer (some ⟨bl,0,none⟩),.pointer (some ⟨bi,0,none⟩)],s17,undef,undef,undef,undef,undef]
attribute [local go_sem] Oper.semAt_some
theorem elections_yes (xs:List FactV) (a:Option Addr) (c:Nat) (key:List UInt8) (w:World) (hE:Env w) (hv:ViewAt w a c xs) (hvc:vcheck (xs.map FactV.f)=0) (hkl:key.length≤1000) (hkn:isName key=true) :
  Calls Tryz.prog 20 #[.slice a xs.length c,.string ⟨key.toArray⟩] w fun e w'=>(∃ v,e = .returned (.tuple #[v,.int .i64 0])∧w'.ownsRow w.heap.size 30 21 v (wfil xs (forKey key) 0).length (flatF (wfil xs (forKey key) 0)))∧Below w.heap.size w w':=by
 obtain ⟨i0,hi,hz0,hz1,hz2⟩:=info_parts infoFact
 have HVC:Hid (∀ W,Below w.heap.size w W→Calls Tryz.prog 38 #[.slice a xs.length c] W fun e w'=>e = .returned (.int .i64 0)∧Below W.heap.size W w'):=fun W hbw=>by have:=viewCheck_any xs a c W (hE.below hbw) hv.len (hv.facts.below hbw) hv.ok;rw [hvc] at this;exact this
 have hn:=hv.len
 have HR:=Lib.hid hv.facts
 have HINF:=Lib.hid (And.intro hi (And.intro hz0 (And.intro hz1 hz2)))
 clear hE hv hvc hi hz0 hz1 hz2
 have HNM:Hid (∀ W,Calls Tryz.prog 44 #[.string ⟨key.toArray⟩] W fun e w'=>e = .returned (.bool true)∧Below W.heap.size W w'):=fun W=>by have:=Name_any key W (by omega);rw [hkn] at this;exact this
 clear hkn
 refine (callsIn_wide (n:=12)).1 ?_
 refine callsIn_of_wp_marks Tryz.func20 rfl trivial ?_ rfl
 simp only [Tryz.ntmps20,List.size_toArray,List.length_cons,List.length_nil,Nat.reduceAdd,Nat.reduceSub,Array.replicate_succ,Array.replicate_zero,List.push_toArray,List.append_toArray,List.nil_append,List.cons_append]
 have b1:=below_alloc w (.cells #[.string ⟨key.toArray⟩] 9)
 have KS:=Lib.hid (Box.new0 w #[.string ⟨key.toArray⟩] 9)
 have HB0:=Lib.hid b1
 have cS:=KS.out.cell 0
 clear b1
 gi_wp2_with fail
 refine ⟨trivial,(callsIn_wide.2 (HVC.out _ HB0.out)).mono ?_⟩
 rintro e w0 ⟨rfl,hb0⟩
 have KS:=Lib.hid (KS.out.below hb0)
 have cS:=KS.out.cell 0
 have HB0:=Lib.hid (below_up HB0.out hb0)
 have HLT0:Hid (w.heap.size < w0.heap.size):=by have:=hb0.size;rw [World.size_alloc] at this;exact this
 clear hb0 HVC
 gi_wp2_with fail
 refine ⟨trivial,(callsIn_wide.2 (HNM.out _)).mono ?_⟩
 rintro e w1 ⟨rfl,hb1⟩
 have KS:=Lib.hid ((KS.out.below hb1).below (below_alloc w1 (.cells #[.slice none 0 0] 22)))
 have KO:=Lib.hid (Box.new0 w1 #[.slice none 0 0] 22)
 have HB1:=Lib.hid (below_up (below_up HB0.out hb1) (below_alloc w1 (.cells #[.slice none 0 0] 22)))
 have HLT:Hid (w.heap.size < w1.heap.size):=Nat.lt_of_lt_of_le HLT0.out hb1.size
 have cS:=KS.out.cell 0
 have HSZ1:Hid ((w1.alloc (.cells #[.slice none 0 0] 22)).heap.size=w1.heap.size+1):=World.size_alloc _ _
 clear hb1 HNM HB0 HLT0
 gi_wp2_with fail
 refine ⟨trivial,(callsIn_wide.2 (where_any _ _ _ _ _ _)).mono ?_⟩
 rintro e w3 ⟨bl,bi,rfl,lbl,lbi,kbl,kbi,hb3⟩
 have KS:=Lib.hid (KS.out.below hb3)
 have KO:=Lib.hid (KO.out.below hb3)
 have HB3:=Lib.hid (below_up HB1.out hb3)
 have HW3:Hid (w1.heap.size+1≤w3.heap.size∧w1.heap.size+1≤bl∧w1.heap.size+1≤bi):=by have h1:=HSZ1.out;have h2:=hb3.size;show _∧_;omega
 have KBL:=Lib.hid kbl
 have KBI:=Lib.hid kbi
 clear lbl lbi kbl kbi hb3 HB1 HSZ1 cS
 obtain ⟨o,ho⟩:∃ o,o=w1.heap.size:=⟨_,rfl⟩
 rw [← ho] at KO HW3 HLT ⊢
 clear ho
 obtain ⟨P,hP⟩:∃ P:Nat→Prop,P=fun k=>k < w3.heap.size∧k ≠ o:=⟨_,rfl⟩
 have HPP:Hid (∀ k,P k ↔ k < w3.heap.size∧k ≠ o):=fun k=>by rw [hP]
 clear hP
 have HBW:Hid (∀ W,Kept P w3 W→Below w.heap.size w W):=fun W hW=>HB3.out.trans (hW.below fun k hk=>(HPP.out k).2 ⟨by have:=HB3.out.size;omega,by have:=HLT.out;omega⟩)
 have hg:=gives_where 11 xs a c bl bi 46 #[.pointer (some ⟨w.heap.size,0,none⟩)] (forKey key) P w3 hn (enters_of Tryz.func46 (by kernel_rfl) rfl) (fun k hk=>((HPP.out k).1 hk).1) (fun W hW=>by
  have h2:=HW3.out
  exact ⟨HR.out.below (HBW.out W hW),hW.box ((HPP.out bl).2 ⟨KBL.out.1,by omega⟩) KBL.out,hW.box ((HPP.out bi).2 ⟨KBI.out.1,by omega⟩) KBI.out,fun x _ W' hW'=>elections1_any x key _ W' ((hW.box ((HPP.out _).2 ⟨KS.out.1,by have:=HLT.out;omega⟩) KS.out).below hW')⟩)
 have HG:=Lib.hid hg
 clear hg KBL KBI
 gi_wp2_with fail
 refine wpIn_rangeFunc_ownH (F:=Fence.wide) rfl (by decide) (gf:=74) (lb:=#[.pointer (some ⟨bl,0,none⟩),.pointer (some ⟨bi,0,none⟩)]) rfl trivial (enters_of Tryz.func74 (by kernel_rfl) rfl) HG.out
  (fun h k=>h.trans k) (fun W l o' o'' hl _ _ _=>Kept.putObj W l o'' fun hp=>absurd ((HPP.out l).1 hp).1 (by omega)) (Below.refl _ _) (fun _=>rfl)
  (fun pre W=>(∃ v,Boxed W o 22 v∧W.ownsRow w3.heap.size 30 21 v pre.length (flatF pre)∧True)∧(Kept P w3 W∧w3.heap.size≤W.heap.size))
  (fun _ _ _=>False)
  (OwnFrom.and (Own.from (holdsRow_own w3.heap.size o 22 30 21 (fun pre:List FactV=>pre.length) flatF (fun _ _=>True)) _) (OwnFrom.and (ownFrom_kept (fun k hk=>⟨((HPP.out k).1 hk).1,((HPP.out k).1 hk).1⟩)) (fun _ A B row hs hg _=>Nat.le_trans hs hg.size)))
  (fun _ _ _ _ _ hs _ _=>hs)
  ⟨⟨_,Box.boxed KO.out,World.ownsRow_nil _ _ _ _,trivial⟩,Kept.refl _ _,Nat.le_refl _⟩
  (fun x a' W => ∃ Bx,w3.heap.size≤Bx∧Box W Bx x.arr 30∧a' = { tmps:=elecA (.string ⟨key.toArray⟩) (.slice a xs.length c) w.heap.size o bl bi (.pointer (some ⟨Bx,0,none⟩)) (.agg x.arr),defers:=[] })
  (fun x a' _ A B row hs hg hr=>by obtain ⟨Bx,h1,h2,h3⟩:=hs;exact ⟨Bx,h1,box_own Bx _ (fun (_:Unit)=>x.arr) () A B row h2 hg (fun r e=>(hr r e).2),h3⟩)
  ?assign ?body ?done ?stop
 case assign =>
  rintro l pre x W K ⟨⟨v,hvb,hvr,_⟩,hk,hsz⟩ hK
  have HN:=Lib.hid (heap_alloc_new W (.cells Z21 30))
  have HBA:=Lib.hid (below_alloc W (.cells Z21 30))
  have HKA:=Lib.hid (KeepsOthers.alloc W (.cells Z21 30))
  have HSX:Hid ((Tryz.prog.info? 30).map (·.size)=some x.arr.size):=factSize x.f x.pa x.oa x.pc x.oc
  have HS21:Hid (Z21.size=x.arr.size):=rfl
  have HONE:=Lib.hid (cells_one x)
  have HKK:=Lib.hid hK
  have HVB:=Lib.hid hvb
  have HVR:=Lib.hid hvr
  have HKP:=Lib.hid hk
  unfold encF
  clear hvb hvr hk hK
  gi_wp2_with (refine wpListIn_store_new (by rfl) 30 _ _ rfl W.heap.size rfl x.arr rfl HN.out HSX.out HS21.out HONE.out ?_;intro w4 kx bx ko kot _)
  have hb4:=HBA.out.trans (bx _ (Nat.le_refl _))
  have hk4:Kept P W w4:=Kept.of_below hb4 (fun k hk=>Nat.lt_of_lt_of_le ((HPP.out k).1 hk).1 hsz)
  have hgr4:=grownBy_of_below hb4
  exact HKK.out _ _ ((HKA.out.trans ko).from _) hk4 ⟨⟨v,HVB.out.kept hgr4 (by simp),HVR.out.kept hgr4 (by cases h:v.ownBlock <;> simp),trivial⟩,HKP.out.trans hk4,Nat.le_trans hsz hb4.size⟩ ⟨W.heap.size,hsz,kx,rfl⟩
 case body =>
  rintro l pre x a' W hl ⟨r,hr⟩ ⟨⟨v,hvb,hvr,_⟩,hkp,hsz⟩ ⟨Bx,hBx,kX,rfl⟩ hlt
  unfold elecA
  have HKP:=Lib.hid hkp
  have HVB:=Lib.hid hvb
  have HVR:=Lib.hid hvr
  have HKX:=Lib.hid kX
  have cO:=hvb.cell
  have HSX:Hid ((Tryz.prog.info? 30).map (·.size)=some x.arr.size):=factSize x.f x.pa x.oa x.pc x.oc
  have HRUN:=Lib.hid (run_oneV x.arr rfl W)
  have HNC:=Lib.hid (new_cells (heap_alloc_new W (.cells x.arr 30)))
  have HONE:Hid (∀ u∈x.arr.toList,u.oneCell'=true):=fun u hu=>(Array.all_eq_true_iff_forall_mem.1 (cells_one x)) u (by simpa using hu)
  have HLN:Hid (x.arr.toList.length=1 * 21):=rfl
  have HFA:Hid (flatF (pre ++ [x])=flatF pre ++ x.arr.toList):=by show _=_;rw [flatF_append,flatF_one]
  clear hkp hvb hvr kX hr
  gi_wp2_with (first | (refine wpListIn_load_row (by rfl) 30 _ rfl Bx rfl x.arr _ HKX.out Tryz.underlying30 rfl HSX.out ?_;simp only [pS]) | (refine wpListIn_slice (by rfl) 22 1 _ rfl #[(0,.agg x.arr)] _ (by simp [Act.eval]) HRUN.out ?_;simp only [pS]) | (gi_at_builtin;refine wpListIn_append_own _ rfl _ _ 22 rfl w3.heap.size 30 i0 zFact 21 312 Tryz.underlying22 HINF.out.1 HINF.out.2.1 HINF.out.2.2.1 HINF.out.2.2.2 rfl (by decide) _ _ _ rfl (HVR.out.alloc _) ⟨W.heap.size,0,none⟩ 1 1 x.arr.toList rfl HLN.out HNC.out HONE.out (by unfold maxLen;omega) (by omega) (by simp;omega) ?_;intro v' w1 hown' hgrow _;obtain ⟨g',cap',rfl⟩:=ownsRow_succ hown';obtain ⟨hv1,hv2,hr2,hk2,hb2⟩:=appendedK HVB.out (by decide) HVR.out hsz (fun j hj=>(HPP.out j).1 hj) hown' hgrow;have hc1:=hv1.cell;have hf1:=hv1.frozen;have HE1:=Lib.hid hv2;have HE2:=Lib.hid hr2;have HE3:=Lib.hid hk2;have HE4:=Lib.hid hb2;clear hv2 hr2 hk2 hb2 hown' hgrow))
  exact ⟨HE3.out.from _,HE4.out,⟨_,HE1.out,by rw [HFA.out,List.length_append];exact HE2.out,trivial⟩,HKP.out.trans HE4.out,Nat.le_trans hsz HE4.out.size⟩
 case done =>
  rintro D ys W hD rfl ⟨⟨v,hvb,hvr,_⟩,hk,hsz⟩ hK
  have cO:=hvb.cell
  have HB:=Lib.hid (HBW.out W hk)
  have HK:=Lib.hid hK
  have HVR:=Lib.hid hvr
  have HHD:=Lib.hid hD
  clear hvb hvr hk hK hD
  gi_wp2
  refine ⟨by simp,.inl ⟨_,_,rfl,run_takeDeferred HK.out,?_⟩⟩
  refine ⟨_,results_tmp2 rfl _ _ _,⟨v,rfl,?_⟩,HB.out.trans (belowK_b (w:=w) (Nat.le_refl _) W D _ _ (by have:=HB3.out.size;have:=HHD.out;omega) HK.out rfl rfl)⟩
  exact owns_down (ownsRow_putObj HVR.out _ HK.out rfl) HB3.out.size
 case stop =>
  rintro D c pre W _ _ h _
  exact h.elim
end Go.Proofs.YtbcebibkpfklnaaGreatDoor
