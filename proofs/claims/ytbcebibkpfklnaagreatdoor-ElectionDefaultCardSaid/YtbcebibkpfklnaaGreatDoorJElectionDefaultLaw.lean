/- ElectionDefaultLaw -/
import Derived.Test.YtbcebibkpfklnaaGreatDoorJAwake32
import Derived.Test.YtbcebibkpfklnaaGreatDoorJElections
import Derived.Test.YtbcebibkpfklnaaGreatDoorJGreat32
set_option maxHeartbeats 16000000
set_option maxRecDepth 100000
namespace Go.Proofs.YtbcebibkpfklnaaGreatDoor
open Go Go.RowKit Num
theorem one_facts {w:World} {B:Nat} (x:FactV) (h:Box w B x.arr 30) (hb:x.f.Behind w x.pa x.oa):Facts w (some ⟨B,0,none⟩) [x]:=by
 refine ⟨srows_of_row (by decide) cells21 (.inr ⟨B,0,rfl,h.1,fun j v hv => ?_⟩),fun y hy => ?_⟩
 ·rw [Nat.zero_add,h.cell j,← hv,← Array.getElem?_toList]
  simp [FactV.cells]
 ·rw [List.mem_singleton] at hy
  subst hy
  exact hb
theorem choice_ok {fs:List FactP} {f:FactP} (h:choiceErr fs f=0):vcheck fs=0∧xcheck f=0:=by
 unfold choiceErr at h
 split at h
 ·cases h
 ·rename_i h'
  exact ⟨by rcases Decidable.em (vcheck fs=0) with h | h;exact h;exact absurd (.inl h) h',by rcases Decidable.em (xcheck f=0) with h | h;exact h;exact absurd (.inr h) h'⟩
theorem choice_val {fs:List FactP} {f:FactP} (h:choiceErr fs f=0):choiceV fs f=chosen fs f:=by unfold choiceV;rw [if_neg (by simpa using h)]
theorem choice_bad {fs:List FactP} {f:FactP} (h:choiceErr fs f ≠ 0):choiceV fs f=0:=by unfold choiceV;rw [if_pos h]
theorem choice_mk {fs:List FactP} {f:FactP} (h1:vcheck fs=0) (h2:xcheck f=0):choiceErr fs f=0:=by unfold choiceErr;rw [if_neg (by simp [h1,h2])]
theorem xcheck_name {f:FactP} (h:xcheck f=0):isName f.key=true :=
 ((fcheck_iff (fcheck_live (xcheck_zero h).1 (by rw [(xcheck_zero h).2];decide))).1 (xcheck_zero h).1).1
theorem wfil_map (xs:List FactV) (p:FactP→Bool):(wfil xs p 0).map FactV.f=(xs.map FactV.f).filter p:=by
 rw [wfil_zero,List.filter_map]
 rfl
theorem wfil_mem {xs:List FactV} {p:FactP→Bool} {x:FactV} (h:x∈wfil xs p 0):x∈xs:=by
 rw [wfil_zero] at h
 exact (List.mem_filter.1 h).1
theorem wfil_len (xs:List FactV) (p:FactP→Bool):(wfil xs p 0).length≤xs.length:=by rw [wfil_zero];exact List.length_filter_le _ _
theorem electionDefaultLaw_any (xs:List FactV) (x:FactV) (a:Option Addr) (c:Nat) (w:World) (hE:Env w) (hn:xs.length≤9223372036854775807) (_hcap:xs.length≤c) (hr:Facts w a xs) (hf:∀ x,x∈xs→x.fits) (hb:x.f.Behind w x.pa x.oa) (hfx:x.fits) :
  Calls Tryz.prog 5 #[.slice a xs.length c,.agg x.arr] w fun e w'=>e = .returned (.bool true)∧Below w.heap.size w w':=by
 have KX:=Lib.hid (Box.new0 w x.arr 30)
 have HB0:=Lib.hid (below_alloc w (.cells x.arr 30))
 have HRUN0:=run_oneV x.arr rfl (w.alloc (.cells x.arr 30))
 rw [World.size_alloc] at HRUN0
 have HRUN:=Lib.hid HRUN0
 have HBr:=below_alloc (w.alloc (.cells x.arr 30)) (.cells x.arr 30)
 have KR:=Box.new0 (w.alloc (.cells x.arr 30)) x.arr 30
 have HB1:=Lib.hid (below_up HB0.out HBr)
 have KX1:=Lib.hid (KX.out.below HBr)
 rw [World.size_alloc] at KR
 have HG0:=great32_any xs [x] a (some ⟨w.heap.size+1,0,none⟩) c 1 ((w.alloc (.cells x.arr 30)).alloc (.cells x.arr 30)) hn (hr.below HB1.out) hf (by simp) (one_facts x KR (hb.below HB1.out)) (by intro y hy;rw [List.mem_singleton] at hy;subst hy;exact hfx)
 rw [show [x].length=1 from rfl] at HG0
 have HG:=Lib.hid HG0
 have HAW:Hid (∀ W,Below w.heap.size w W→Calls Tryz.prog 11 #[] W fun e w'=>e = .returned (.bool true)∧Below W.heap.size W w'):=fun W hb=>awake32_any W (hE.below hb)
 have HE:=Lib.hid hE
 have HR:=Lib.hid hr
 have HF:=Lib.hid hf
 have HFX:=Lib.hid hfx
 have HBX:=Lib.hid hb
 have HSZ:Hid ((Tryz.prog.info? 30).map (·.size)=some x.arr.size):=factSize x.f x.pa x.oa x.pc x.oc
 have HX0:Hid (x.arr[0]? = some (.string ⟨x.f.key.toArray⟩)∧x.arr[19]? = some (.slice x.oa x.f.options.length x.oc)):=⟨rfl,rfl⟩
 obtain ⟨fc,hfc⟩:∃ fc,fc=x.arr:=⟨_,rfl⟩
 have HFC:=Lib.hid hfc
 rw [← hfc] at KX KX1 HB0 HB1 HG HSZ HRUN HX0 ⊢
 clear hE hr hf hb hfx hfc HBr KR HRUN0 HG0
 go_enter Tryz.func5,Tryz.ntmps5
 go_wp2_with (first | (refine wpList_load_row rfl 30 _ rfl w.heap.size rfl 30 fc (0,0) _ KX.out.2 Tryz.underlying30 rfl HSZ.out ?_;simp only [pS]) | (refine wpList_sliceV rfl 22 1 _ rfl #[(0,.agg fc)] _ (by simp [Act.eval]) HRUN.out ?_;simp only [pS]))
 refine HG.out.mono ?_
 rintro e w1 ⟨⟨g,rfl,hg⟩,hb⟩
 have KX:=Lib.hid (KX1.out.below hb)
 have HB1:=Lib.hid (below_up HB1.out hb)
 have HGS:=Lib.hid hg
 clear hb hg HG KX1 HRUN HB0
 cases g with
 | true =>
  go_wp2_with fail
  refine (HAW.out _ HB1.out).mono ?_
  rintro e w2 ⟨rfl,hb⟩
  go_wp2
  go_ret
  exact ⟨rfl,below_up HB1.out hb⟩
 | false =>
  have HSM:=Lib.hid (HGS.out rfl)
  have HTX:Hid x.f.tight:=(HGS.out rfl).2 x (by simp)
  clear HGS
  have hlen:xs.length≤1003:=by rcases HSM.out.1.2 with h | h <;> omega
  have HV:Hid (ViewAt w a c xs):=⟨HR.out,fun y hy=>⟨(HSM.out.1.1 y hy).small,(HF.out y hy).picks⟩,by omega⟩
  have HXO:Hid x.ok:=⟨HTX.out.small,HFX.out.picks⟩
  obtain ⟨fs,hfs⟩:∃ fs,fs=xs.map FactV.f:=⟨_,rfl⟩
  have HCH:Hid (∀ W,Below w.heap.size w W→Calls Tryz.prog 12 #[.slice a xs.length c,.agg fc] W fun e w'=>e = .returned (.tuple #[.int .i64 (choiceV fs x.f),.int .i64 (choiceErr fs x.f)])∧Below W.heap.size W w'):=fun W hb=>by
   rw [HFC.out,hfs]
   exact choice_any xs a c x W (HE.out.below hb) (HV.out.below hb) HXO.out (HBX.out.below hb)
  have HCL:Hid (∀ (ys:List FactV) (a':Option Addr) (c':Nat) W,Below w.heap.size w W→ViewAt W a' c' ys→Calls Tryz.prog 12 #[.slice a' ys.length c',.agg fc] W fun e w'=>e = .returned (.tuple #[.int .i64 (choiceV (ys.map FactV.f) x.f),.int .i64 (choiceErr (ys.map FactV.f) x.f)])∧Below W.heap.size W w'):=fun ys a' c' W hb hv=>by
   rw [HFC.out]
   exact choice_any ys a' c' x W (HE.out.below hb) hv HXO.out (HBX.out.below hb)
  have HEL:Hid (choiceErr fs x.f=0→∀ W,Below w.heap.size w W→Calls Tryz.prog 20 #[.slice a xs.length c,.string ⟨x.f.key.toArray⟩] W fun e w' => ∃ a' c',e = .returned (.tuple #[.slice a' (wfil xs (forKey x.f.key) 0).length c',.int .i64 0])∧ViewAt w' a' c' (wfil xs (forKey x.f.key) 0)∧Below W.heap.size W w'):=fun h W hb=>by
   rw [hfs] at h
   refine (elections_yes xs a c x.f.key W (HE.out.below hb) (HV.out.below hb) (choice_ok h).1 HXO.out.small.key (xcheck_name (choice_ok h).2)).mono ?_
   rintro e w' ⟨⟨v,rfl,hv⟩,hb'⟩
   obtain ⟨a',c',rfl,hfa,_⟩:=facts_of_owned hv (fun y hy=>((HV.out.below hb).facts.2 y (wfil_mem hy)).below hb')
   exact ⟨a',c',rfl,⟨hfa,fun y hy=>HV.out.ok y (wfil_mem hy),Nat.le_trans (wfil_len _ _) HV.out.len⟩,hb'⟩
  have HPL:Hid (choiceErr fs x.f=0→(choiceErr [] x.f=0∧choiceV [] x.f=0)∧(choiceErr ((wfil xs (forKey x.f.key) 0).map FactV.f) x.f=0∧choiceV ((wfil xs (forKey x.f.key) 0).map FactV.f) x.f=choiceV fs x.f)∧0≤choiceV fs x.f∧choiceV fs x.f < x.f.options.length):=fun h=>by
   obtain ⟨h1,h2⟩:=choice_ok h
   have e1:choiceErr [] x.f=0:=choice_mk vcheck_nil h2
   have e2:(wfil xs (forKey x.f.key) 0).map FactV.f=electsOf fs x.f.key:=by rw [wfil_map,hfs];rfl
   have e3:choiceErr (electsOf fs x.f.key) x.f=0:=choice_mk (vcheck_sub h1 List.filter_sublist) h2
   rw [e2,choice_val h,choice_val e1,choice_val e3,chosen_electsOf]
   exact ⟨⟨e1,rfl⟩,⟨e3,rfl⟩,chosen_range h1 h2⟩
  have HBAD:=Lib.hid (@choice_bad fs x.f)
  have HNIL:Hid (∀ W,ViewAt W none 0 []):=fun W=>⟨⟨.inl rfl,fun y hy=>by cases hy⟩,fun y hy=>(by cases hy),by decide⟩
  clear HR HF HFX HSM HV HXO HTX HE hfs hlen
  generalize choiceV fs x.f=cv at *
  generalize choiceErr fs x.f=er at *
  generalize x.f.key=key at *
  generalize x.f.options.length=ol at *
  have c0:=(KX.out.cell 0).trans HX0.out.1
  have c19:=(KX.out.cell 19).trans HX0.out.2
  go_wp2_with (refine wpList_load_row rfl 30 _ rfl w.heap.size rfl 30 fc (0,0) _ KX.out.2 Tryz.underlying30 rfl HSZ.out ?_)
  refine (HCH.out _ HB1.out).mono ?_
  rintro e w2 ⟨rfl,hb⟩
  have KX:=Lib.hid (KX.out.below hb)
  have HB2:=Lib.hid (below_up HB1.out hb)
  have c0:=(KX.out.cell 0).trans HX0.out.1
  clear hb HCH HB1 c19
  by_cases he:er=0
  ·subst he
   have HPM:=Lib.hid (HPL.out rfl)
   have HEM:=Lib.hid (HEL.out rfl)
   clear HBAD HPL HEL
   go_wp2_with fail
   refine (HEM.out _ HB2.out).mono ?_
   rintro e w3 ⟨a',c',rfl,hva,hb⟩
   have KX:=Lib.hid (KX.out.below hb)
   have HB3:=Lib.hid (below_up HB2.out hb)
   have HVA:=Lib.hid hva
   clear hb hva HEM HB2 c0
   have HC0:=HCL.out [] none 0 w3 HB3.out (HNIL.out _)
   rw [show ([]:List FactV).map FactV.f=[] from rfl,HPM.out.1.1,HPM.out.1.2] at HC0
   have HC0:=Lib.hid HC0
   go_wp2_with (refine wpList_load_row rfl 30 _ rfl w.heap.size rfl 30 fc (0,0) _ KX.out.2 Tryz.underlying30 rfl HSZ.out ?_)
   refine HC0.out.mono ?_
   rintro e w4 ⟨rfl,hb⟩
   have KX:=Lib.hid (KX.out.below hb)
   have HB4:=Lib.hid (below_up HB3.out hb)
   have HVA:=Lib.hid (HVA.out.below hb)
   clear hb HC0 HB3
   have HC1:=HCL.out _ a' c' w4 HB4.out HVA.out
   rw [HPM.out.2.1.1,HPM.out.2.1.2] at HC1
   have HC1:=Lib.hid HC1
   generalize (wfil xs (forKey key) 0).length=m at *
   go_wp2_with (refine wpList_load_row rfl 30 _ rfl w.heap.size rfl 30 fc (0,0) _ KX.out.2 Tryz.underlying30 rfl HSZ.out ?_)
   refine HC1.out.mono ?_
   rintro e w5 ⟨rfl,hb⟩
   have KX:=Lib.hid (KX.out.below hb)
   have HB5:=Lib.hid (below_up HB4.out hb)
   have c19:=(KX.out.cell 19).trans HX0.out.2
   have h0:=HPM.out.2.2.1
   have h1:=HPM.out.2.2.2
   clear hb HC1 HB4 HVA HCL HPM
   go_wp2_with fail
   refine (HAW.out _ HB5.out).mono ?_
   rintro e w6 ⟨rfl,hb⟩
   go_wp2
   go_ret
   exact ⟨rfl,below_up HB5.out hb⟩
  ·have he':(er == 0)=false:=by simpa using he
   have hcv:cv=0:=HBAD.out he
   subst hcv
   clear HBAD HPL HEL HCL
   go_wp2_with fail
   refine (HAW.out _ HB2.out).mono ?_
   rintro e w3 ⟨rfl,hb⟩
   go_wp2
   go_ret
   exact ⟨rfl,below_up HB2.out hb⟩
end Go.Proofs.YtbcebibkpfklnaaGreatDoor
