/- RAppend -/
import Derived.Test.YtgopbldkhlmbnaaGreatDoorJAppend
import Derived.Test.YtgopbldkhlmbnaaGreatDoorJR14
set_option maxHeartbeats 16000000
set_option maxRecDepth 100000
namespace Go.Proofs.YtgopbldkhlmbnaaGreatDoor
open Go Go.RowKit Num
theorem below_none {B:Nat} {w0 w w':World} (hb:Below B w0 w) (hg:w.grownBy w' none) (hB:B≤w.heap.size):Below B w0 w' :=
 ⟨hg.os.trans hb.os,hg.tape.trans hb.tape,hg.output.trans hb.output,Nat.le_trans hb.size hg.size,fun k hk=>(hg.block k (Nat.lt_of_lt_of_le hk hB) (by simp)).trans (hb.block k hk)⟩
theorem run_none (w:World):(Instr.buildSlice 22 0 #[]).run Tryz.prog w = .ok (.slice (some ⟨w.heap.size,0,none⟩) 0 0) (w.alloc (.cells #[] 36)):=by
 simp [go_sem]
section
variable {o:Oper} {a:Act} {K:Act→World→Prop} {Q:Exit→Act→World→Prop} {w:World}
theorem step_empty (ho:o.op = .buildSlice 22 0 #[]) (h:∀ W' B,W'.ownsRow w.heap.size 36 21 (.slice (some ⟨B,0,none⟩) 0 0) 0 []→w.grownBy W' none→w.heap.size≤B→B < W'.heap.size→K (a.put o.dst (.slice (some ⟨B,0,none⟩) 0 0)) W'):o.wp Tryz.prog a w K Q :=
 o_slice2 ho (by simp) (run_none w) (h _ w.heap.size (World.ownsRow_made w #[] 0 (Nat.le_refl _) (Nat.zero_le _) rfl) (World.grownBy_alloc w _ none) (Nat.le_refl _) (by simp))
theorem step_fact {y:Operand} {fc:Array Value} (ho:o.op = .buildSlice 22 1 #[(0,y)]) (hy:a.eval y = .agg fc) (hs:fc.size=21) (h:∀ W' B,W'.heap[B]? = some (.cells fc 36 (0,0))→w.grownBy W' none→w.heap.size≤B→B < W'.heap.size→K (a.put o.dst (.slice (some ⟨B,0,none⟩) 1 1)) W'):o.wp Tryz.prog a w K Q :=
 o_slice2 ho (by simp [hy]) (run_one fc hs w) (h _ w.heap.size (heap_alloc_new w _) (World.grownBy_alloc w _ none) (Nat.le_refl _) (by simp))
theorem step_list (s x:Operand) (ho:o.op = .call { callee:=.builtin .append,args:=#[s,x],argTypes:=#[22,22] }) (base:Nat) (v:Value) (hs:a.eval s=v) (hown:w.ownsRow base 36 21 v 0 []) (xs:List FactV) (A:Option Addr) (c:Nat) (hx:a.eval x = .slice A xs.length c) (hf:Facts w A xs) (hn:xs.length≤1000) (hb:base≤w.heap.size)
  (h:∀ v' W',W'.ownsRow base 36 21 v' xs.length (flatF xs)→w.grownBy W' v.ownBlock→K (a.put o.dst v') W'):o.wp Tryz.prog a w K Q:=by
 obtain ⟨i0,hi,hz0,hz1,hz2⟩:=info_parts infoFact
 by_cases h0:xs=[]
 ·subst h0
  obtain ⟨_,hv | ⟨g,cap,cur,hv,r⟩⟩:=id hown
  ·rw [hv.1] at hs hown
   refine Lib.wp_append_run w s x 22 22 ho _ _ hs hx _ w (run_append_none w 22 o.type 36 i0 Tryz.underlying22 hi none 0 0 (Nat.le_refl _) A c) (h _ _ hown ⟨rfl,rfl,rfl,Nat.le_refl _,fun _ _ _=>rfl⟩)
  ·rw [hv] at hs hown
   refine Lib.wp_append_run w s x 22 22 ho _ _ hs hx _ w (run_append_none w 22 o.type 36 i0 Tryz.underlying22 hi _ 0 cap (Nat.zero_le _) A c) (h _ _ hown ⟨rfl,rfl,rfl,Nat.le_refl _,fun _ _ _=>rfl⟩)
 ·obtain ⟨bs,os,rfl,hlt,hcc⟩:=hf.flatCells h0
  have hp:0 < xs.length:=List.length_pos_iff.2 h0
  refine wp_append_lies w s x 22 ho base 36 i0 zFact 21 312 Tryz.underlying22 hi hz0 hz1 hz2 rfl (by decide) v 0 [] hs hown ⟨bs,os,none⟩ xs.length c (flatF xs) hx (flatF_len xs) (fun j u hu=>by rw [addr_add];exact hcc j u hu) flatF_oneCell hp (by unfold maxLen;omega) (by omega) hb _ rfl fun g cap w' h1 h2 _ _ => ?_
  rw [Nat.zero_add] at h1 ⊢
  exact h _ _ (by simpa using h1) h2
end
theorem R14Append_any (xs:List FactV) (x:FactV) (a:Option Addr) (c:Nat) (w:World) (hl:LogT w a c xs) (hx:x.f.tight) (hb:x.f.Behind w x.pa x.oa) :
  Calls Tryz.prog 16 #[.slice a xs.length c,.agg x.arr] w fun e w'=>(∃ a' c',e = .returned (.tuple #[.slice a' (appRow xs x).length c',.int .i64 (appErr (xs.map FactV.f) x.f)])∧Facts w' a' (appRow xs x)∧(appRow xs x).length≤c')∧Below w.heap.size w w':=by
 obtain ⟨i0,hi,hz0,hz1,hz2⟩:=info_parts infoFact
 have HL:=Lib.hid hl.facts
 have HBX:=Lib.hid hb
 have hlen:=hl.len
 have HCK:Hid (∀ W,Below w.heap.size w W→Calls Tryz.prog 18 #[.slice a xs.length c] W fun e w'=>e = .returned (.int .i64 (lcheck (xs.map FactV.f)))∧Below W.heap.size W w'):=fun W hbw=>R14Check_any xs a c W hl.len (hl.below hbw).facts hl.tight
 have HFC:Hid (∀ W,Below w.heap.size w W→Calls Tryz.prog 20 #[.agg x.arr] W fun e w'=>e = .returned (.int .i64 (fcheck x.f))∧Below W.heap.size W w'):=fun W hbw=>RCheck13_any x.f x.pa x.oa x.pc x.oc W hx (hb.below hbw)
 have HFX0:Hid (∀ W,Below w.heap.size w W→Facts W a xs):=fun W hbw=>hl.facts.below hbw
 clear hl hx hb
 have KX:=Lib.hid (Box.new0 w x.arr 36)
 have HB0:=Lib.hid (below_alloc w (.cells x.arr 36))
 have HSZ:Hid ((Tryz.prog.info? 36).map (·.size)=some x.arr.size):=factSize x.f x.pa x.oa x.pc x.oc
 have HST:Hid (x.arr[1]? = some (.int .i64 x.f.stamp)):=rfl
 have HS21:Hid (x.arr.size=21):=rfl
 have HFL:=Lib.hid (flatF_one x)
 obtain ⟨le,hle⟩:∃ le,le=lcheck (xs.map FactV.f):=⟨_,rfl⟩
 obtain ⟨fe,hfe⟩:∃ fe,fe=fcheck x.f:=⟨_,rfl⟩
 obtain ⟨er,her⟩:∃ er,er=appErr (xs.map FactV.f) x.f:=⟨_,rfl⟩
 have HER:Hid (er=if le ≠ 0 then 1 else if xs.length=1000 then 4 else if fe ≠ 0 then fe else if late (xs.map FactV.f) x.f=true then 8 else 0):=by
  show _=_
  rw [her,hle,hfe]
  unfold appErr
  rw [List.length_map]
 have HROW:Hid (appRow xs x=if er=0 then xs ++ [x] else []):=by show _=_;rw [her];rfl
 rw [← hle] at HCK
 rw [← hfe] at HFC
 rw [← her]
 have HLE:=Lib.hid hle
 clear hle hfe her
 have HNO:Hid (er ≠ 0→∀ W B,Below w.heap.size w W→(∃ a' c',(Ending.returned (.tuple #[.slice (some ⟨B,0,none⟩) 0 0,.int .i64 er]):Ending) = .returned (.tuple #[.slice a' (appRow xs x).length c',.int .i64 er])∧Facts W a' (appRow xs x)∧(appRow xs x).length≤c')∧Below w.heap.size w W):=fun h W B hb=>by
  have e:appRow xs x=[]:=by rw [HROW.out,if_neg h]
  rw [e]
  exact ⟨⟨some ⟨B,0,none⟩,0,rfl,⟨.inl rfl,fun y hy=>by simp at hy⟩,Nat.le_refl _⟩,hb⟩
 generalize hfc:x.arr=fc at *
 clear hfc
 go_enter Tryz.func16,Tryz.ntmps16
 go_wp2_with fail
 refine (HCK.out _ HB0.out).mono ?_
 rintro e w1 ⟨rfl,hb1⟩
 have KX:=Lib.hid (KX.out.below hb1)
 have HB1:=Lib.hid (below_up HB0.out hb1)
 clear hb1 HCK
 by_cases h0:le=0
 ·subst h0
  have HN1:Hid (xs.length≤1000):=by have h:=(lcheck_zero HLE.out.symm).1;rw [List.length_map] at h;exact h
  have hle1:=HN1.out
  by_cases h1:xs.length=1000
  ·have HE4:Hid (er=4):=by show _=_;rw [HER.out,if_neg (by simp),if_pos h1]
   have HN:=Lib.hid (HNO.out (by rw [HE4.out];decide))
   clear HER HROW HNO
   go_wp2
   go_ret2
   have h:=HN.out
   rw [HE4.out] at h ⊢
   exact h _ _ (below_up HB1.out (below_alloc _ _))
  ·have h1b:¬ (1000:Int)≤(xs.length:Int):=by omega
   go_wp2_with (refine wpList_load_row rfl 36 _ rfl w.heap.size rfl 36 fc (0,0) _ KX.out.2 Tryz.underlying36 rfl HSZ.out ?_)
   refine (HFC.out _ HB1.out).mono ?_
   rintro e w2 ⟨rfl,hb2⟩
   have KX:=Lib.hid (KX.out.below hb2)
   have HB2:=Lib.hid (below_up HB1.out hb2)
   clear hb2 HFC
   by_cases hf0:fe=0
   ·subst hf0
    have HNS:Hid ((xs.map FactV.f).length=xs.length):=List.length_map ..
    have c1:=(KX.out.cell 1).trans HST.out
    have HER2:Hid (er=if late (xs.map FactV.f) x.f=true then 8 else 0):=by show _=_;rw [HER.out,if_neg (by simp),if_neg h1,if_neg (by simp)]
    clear HER
    have HFX:Hid (∀ W,Below w2.heap.size w2 W→Facts W a xs):=fun W hb=>HFX0.out W (below_up HB2.out hb)
    have hn1:xs.length≤1000:=HN1.out
    generalize hn:xs.length=n at *
    cases n with
    | zero =>
     have HE0:Hid (er=0):=by show _=_;rw [HER2.out,if_neg (by rw [late_none HNS.out];decide)]
     clear HER2 HNO
     go_wp2_with fail
     go_quiet (fail)
     go_wp2_with fail
     refine wp_region_held_drew (S:=fun W=>Box W w.heap.size fc 36) (by kernel_rfl) ?hS1 (fun hHeld => ?hR1)
     case hS1=>exact KX.out.below (by first | exact below_drewN (Below.refl w2.heap.size w2) _ | exact below_drewN (below_drewN (Below.refl w2.heap.size w2) _) 1)
     refine tk 1 (some 38) (?v2) rfl rfl ?hy2 ?hR2
     case hy2=>(intro W hSw;go_simp;try rfl)
     simp only [pS]
     refine tk 3 (some 40) (.agg fc) rfl rfl ?hy3 ?hR3
     case hy3=>(intro W hSw;exact yields_load rfl rfl hSw.list Tryz.underlying36 rfl HSZ.out)
     simp only [pS]
     refine wpAnyH_ready (rs:=[0,4]) (by kernel_rfl) (by simp) ?_
     refine AllReadyH.cons (o:=_) rfl (fun K hK => ?hA1) (AllReadyH.cons (o:=_) rfl (fun K hK => ?hB1) AllReadyH.nil)
     case hA1 =>
      rw [if_pos (by rfl)]
      simp only [List.getElem_toArray,List.getElem_cons_zero]
      refine step_empty rfl ?_
      intro W BE how hgw hge hlt
      have how:=Lib.hid (owns_weak (b':=w2.heap.size) how (Below.size (B:=w2.heap.size) (w:=w2) (by first | exact below_drewN (Below.refl w2.heap.size w2) _ | exact below_drewN (below_drewN (Below.refl w2.heap.size w2) _) 1)))
      have HBW:=Lib.hid (below_none (B:=w2.heap.size) (w0:=w2) (by first | exact below_drewN (Below.refl w2.heap.size w2) _ | exact below_drewN (below_drewN (Below.refl w2.heap.size w2) _) 1) hgw (Below.size (B:=w2.heap.size) (w:=w2) (by first | exact below_drewN (Below.refl w2.heap.size w2) _ | exact below_drewN (below_drewN (Below.refl w2.heap.size w2) _) 1)))
      refine hK.out _ _ ?hS4 (fun hHeld => ?hR4)
      case hS4=>exact KX.out.below HBW.out
      simp only [pS]
      refine wpAnyH_ready (rs:=[2,4]) (by kernel_rfl) (by simp) ?_
      refine AllReadyH.cons (o:=_) rfl (fun K hK => ?hC1) (AllReadyH.cons (o:=_) rfl (fun K hK => ?hD1) AllReadyH.nil)
      case hC1 =>
       rw [if_pos (by rfl)]
       simp only [List.getElem_toArray,List.getElem_cons_succ,List.getElem_cons_zero]
       refine step_list (.tmp 37) (.tmp 38) rfl w2.heap.size (.slice (some ⟨BE,0,none⟩) 0 0) (by simp [Act.eval]) how.out xs a c (by simp [Act.eval];exact hn.symm) (HFX.out _ HBW.out) (by rw [hn];exact hn1) (Below.size HBW.out) ?_
       intro vq W ho9 hg9
       have HBW:=Lib.hid (grown_below how.out hg9 HBW.out (Below.size HBW.out))
       rw [hn] at ho9
       have how:=Lib.hid ho9
       clear ho9 hg9
       refine hK.out _ _ ?hS5 (fun hHeld => ?hR5)
       case hS5=>exact KX.out.below HBW.out
       simp only [pS]
       refine wpAnyH_ready (rs:=[4]) (by kernel_rfl) (by simp) ?_
       refine AllReadyH.cons (o:=_) rfl (fun K hK => ?hE1) AllReadyH.nil
       rw [if_pos (by rfl)]
       simp only [List.getElem_toArray,List.getElem_cons_succ,List.getElem_cons_zero]
       refine step_fact rfl (by simp [Act.eval]) HS21.out ?_
       intro W BF hfw hgw hgf hfl
       have HFW:=Lib.hid hfw
       have how:=Lib.hid (how.out.kept hgw (by cases vq.ownBlock <;> simp))
       have HBW:=Lib.hid (below_none HBW.out hgw (Below.size HBW.out))
       refine hK.out _ _ ?hS6 (fun hHeld => ?hR6)
       case hS6=>exact KX.out.below HBW.out
       simp only [pS]
       refine wpAnyH_ready (rs:=[5]) (by kernel_rfl) (by simp) ?_
       refine AllReadyH.cons (o:=_) rfl (fun K hK => ?hF1) AllReadyH.nil
       rw [if_pos (by rfl)]
       simp only [List.getElem_toArray,List.getElem_cons_succ,List.getElem_cons_zero]
       refine wp_append_lies _ (.tmp 39) (.tmp 41) 22 rfl w2.heap.size 36 i0 zFact 21 312 Tryz.underlying22 hi hz0 hz1 hz2 rfl (by decide) vq 0 (flatF xs) (by simp [Act.eval]) how.out ⟨BF,0,none⟩ 1 1 (flatF [x]) (by simp [Act.eval]) (flatF_len [x]) (news_one HFW.out HFL.out) flatF_oneCell (by decide) (by unfold maxLen;omega) (by omega) (Below.size HBW.out) _ rfl ?_
       intro gg cc w10 ho10 hg10 _ _
       have HBW:=Lib.hid (grown_below how.out hg10 HBW.out (Below.size HBW.out))
       have HB10:=Lib.hid (below_up HB2.out HBW.out)
       have HO10:=Lib.hid ho10
       clear hg10 ho10
       refine hK.out _ _ ?hS8 (fun hHeld => ?hR8)
       case hS8=>exact KX.out.below HBW.out
       simp only [pS]
       refine tk 6 (some 4) (?v9) rfl rfl ?hy9 ?hR9
       case hy9=>(intro W hSw;go_simp;try rfl)
       simp only [pS]
       refine tk 7 (some 5) (?v10) rfl rfl ?hy10 ?hR10
       case hy10=>(intro W hSw;go_simp;try rfl)
       simp only [pS]
       refine wpAnyH_done (by kernel_rfl) ?_ _
       go_wp2
       go_ret2
       exact ⟨app_done (HL.out.below HB10.out) (HBX.out.below HB10.out) HO10.out hn HROW.out HE0.out,HB10.out⟩
      case hD1 =>
       rw [if_pos (by rfl)]
       simp only [List.getElem_toArray,List.getElem_cons_succ,List.getElem_cons_zero]
       refine step_fact rfl (by simp [Act.eval]) HS21.out ?_
       intro W BF hfw hgw hgf hfl
       have HFW:=Lib.hid hfw
       have how:=Lib.hid (how.out.kept hgw (.inr (by simp [Value.ownBlock])))
       have hne:BE ≠ BF:=by omega
       have HBW:=Lib.hid (below_none HBW.out hgw (Below.size HBW.out))
       refine hK.out _ _ ?hS11 (fun hHeld => ?hR11)
       case hS11=>exact KX.out.below HBW.out
       simp only [pS]
       refine wpAnyH_ready (rs:=[2]) (by kernel_rfl) (by simp) ?_
       refine AllReadyH.cons (o:=_) rfl (fun K hK => ?hG1) AllReadyH.nil
       rw [if_pos (by rfl)]
       simp only [List.getElem_toArray,List.getElem_cons_succ,List.getElem_cons_zero]
       refine step_list (.tmp 37) (.tmp 38) rfl w2.heap.size (.slice (some ⟨BE,0,none⟩) 0 0) (by simp [Act.eval]) how.out xs a c (by simp [Act.eval];exact hn.symm) (HFX.out _ HBW.out) (by rw [hn];exact hn1) (Below.size HBW.out) ?_
       intro vq W ho9 hg9
       have HFW:=Lib.hid ((hg9.block _ hfl (by simp [Value.ownBlock];omega)).trans HFW.out)
       have HBW:=Lib.hid (grown_below how.out hg9 HBW.out (Below.size HBW.out))
       rw [hn] at ho9
       have how:=Lib.hid ho9
       clear ho9 hg9
       refine hK.out _ _ ?hS12 (fun hHeld => ?hR12)
       case hS12=>exact KX.out.below HBW.out
       simp only [pS]
       refine wpAnyH_ready (rs:=[5]) (by kernel_rfl) (by simp) ?_
       refine AllReadyH.cons (o:=_) rfl (fun K hK => ?hI1) AllReadyH.nil
       rw [if_pos (by rfl)]
       simp only [List.getElem_toArray,List.getElem_cons_succ,List.getElem_cons_zero]
       refine wp_append_lies _ (.tmp 39) (.tmp 41) 22 rfl w2.heap.size 36 i0 zFact 21 312 Tryz.underlying22 hi hz0 hz1 hz2 rfl (by decide) vq 0 (flatF xs) (by simp [Act.eval]) how.out ⟨BF,0,none⟩ 1 1 (flatF [x]) (by simp [Act.eval]) (flatF_len [x]) (news_one HFW.out HFL.out) flatF_oneCell (by decide) (by unfold maxLen;omega) (by omega) (Below.size HBW.out) _ rfl ?_
       intro gg cc w10 ho10 hg10 _ _
       have HBW:=Lib.hid (grown_below how.out hg10 HBW.out (Below.size HBW.out))
       have HB10:=Lib.hid (below_up HB2.out HBW.out)
       have HO10:=Lib.hid ho10
       clear hg10 ho10
       refine hK.out _ _ ?hS14 (fun hHeld => ?hR14)
       case hS14=>exact KX.out.below HBW.out
       simp only [pS]
       refine tk 6 (some 4) (?v15) rfl rfl ?hy15 ?hR15
       case hy15=>(intro W hSw;go_simp;try rfl)
       simp only [pS]
       refine tk 7 (some 5) (?v16) rfl rfl ?hy16 ?hR16
       case hy16=>(intro W hSw;go_simp;try rfl)
       simp only [pS]
       refine wpAnyH_done (by kernel_rfl) ?_ _
       go_wp2
       go_ret2
       exact ⟨app_done (HL.out.below HB10.out) (HBX.out.below HB10.out) HO10.out hn HROW.out HE0.out,HB10.out⟩
     case hB1 =>
      rw [if_pos (by rfl)]
      simp only [List.getElem_toArray,List.getElem_cons_succ,List.getElem_cons_zero]
      refine step_fact rfl (by simp [Act.eval]) HS21.out ?_
      intro W BF hfw hgw hgf hfl
      have HFW:=Lib.hid hfw
      have HBW:=Lib.hid (below_none (B:=w2.heap.size) (w0:=w2) (by first | exact below_drewN (Below.refl w2.heap.size w2) _ | exact below_drewN (below_drewN (Below.refl w2.heap.size w2) _) 1) hgw (Below.size (B:=w2.heap.size) (w:=w2) (by first | exact below_drewN (Below.refl w2.heap.size w2) _ | exact below_drewN (below_drewN (Below.refl w2.heap.size w2) _) 1)))
      refine hK.out _ _ ?hS17 (fun hHeld => ?hR17)
      case hS17=>exact KX.out.below HBW.out
      simp only [pS]
      refine wpAnyH_ready (rs:=[0]) (by kernel_rfl) (by simp) ?_
      refine AllReadyH.cons (o:=_) rfl (fun K hK => ?hJ1) AllReadyH.nil
      rw [if_pos (by rfl)]
      simp only [List.getElem_toArray,List.getElem_cons_zero]
      refine step_empty rfl ?_
      intro W BE how hgw hge hlt
      have how:=Lib.hid (owns_weak (b':=w2.heap.size) how (Below.size HBW.out))
      have HFW:=Lib.hid ((hgw.block _ hfl (by simp)).trans HFW.out)
      have hne:BE ≠ BF:=by omega
      have hfl:=Nat.lt_of_lt_of_le hfl hgw.size
      have HBW:=Lib.hid (below_none HBW.out hgw (Below.size HBW.out))
      refine hK.out _ _ ?hS18 (fun hHeld => ?hR18)
      case hS18=>exact KX.out.below HBW.out
      simp only [pS]
      refine wpAnyH_ready (rs:=[2]) (by kernel_rfl) (by simp) ?_
      refine AllReadyH.cons (o:=_) rfl (fun K hK => ?hL1) AllReadyH.nil
      rw [if_pos (by rfl)]
      simp only [List.getElem_toArray,List.getElem_cons_succ,List.getElem_cons_zero]
      refine step_list (.tmp 37) (.tmp 38) rfl w2.heap.size (.slice (some ⟨BE,0,none⟩) 0 0) (by simp [Act.eval]) how.out xs a c (by simp [Act.eval];exact hn.symm) (HFX.out _ HBW.out) (by rw [hn];exact hn1) (Below.size HBW.out) ?_
      intro vq W ho9 hg9
      have HFW:=Lib.hid ((hg9.block _ hfl (by simp [Value.ownBlock];omega)).trans HFW.out)
      have HBW:=Lib.hid (grown_below how.out hg9 HBW.out (Below.size HBW.out))
      rw [hn] at ho9
      have how:=Lib.hid ho9
      clear ho9 hg9
      refine hK.out _ _ ?hS19 (fun hHeld => ?hR19)
      case hS19=>exact KX.out.below HBW.out
      simp only [pS]
      refine wpAnyH_ready (rs:=[5]) (by kernel_rfl) (by simp) ?_
      refine AllReadyH.cons (o:=_) rfl (fun K hK => ?hM1) AllReadyH.nil
      rw [if_pos (by rfl)]
      simp only [List.getElem_toArray,List.getElem_cons_succ,List.getElem_cons_zero]
      refine wp_append_lies _ (.tmp 39) (.tmp 41) 22 rfl w2.heap.size 36 i0 zFact 21 312 Tryz.underlying22 hi hz0 hz1 hz2 rfl (by decide) vq 0 (flatF xs) (by simp [Act.eval]) how.out ⟨BF,0,none⟩ 1 1 (flatF [x]) (by simp [Act.eval]) (flatF_len [x]) (news_one HFW.out HFL.out) flatF_oneCell (by decide) (by unfold maxLen;omega) (by omega) (Below.size HBW.out) _ rfl ?_
      intro gg cc w10 ho10 hg10 _ _
      have HBW:=Lib.hid (grown_below how.out hg10 HBW.out (Below.size HBW.out))
      have HB10:=Lib.hid (below_up HB2.out HBW.out)
      have HO10:=Lib.hid ho10
      clear hg10 ho10
      refine hK.out _ _ ?hS21 (fun hHeld => ?hR21)
      case hS21=>exact KX.out.below HBW.out
      simp only [pS]
      refine tk 6 (some 4) (?v22) rfl rfl ?hy22 ?hR22
      case hy22=>(intro W hSw;go_simp;try rfl)
      simp only [pS]
      refine tk 7 (some 5) (?v23) rfl rfl ?hy23 ?hR23
      case hy23=>(intro W hSw;go_simp;try rfl)
      simp only [pS]
      refine wpAnyH_done (by kernel_rfl) ?_ _
      go_wp2
      go_ret2
      exact ⟨app_done (HL.out.below HB10.out) (HBX.out.below HB10.out) HO10.out hn HROW.out HE0.out,HB10.out⟩
    | succ m =>
     obtain ⟨y,hy⟩:∃ y,xs[m]? = some y:=⟨xs[m]'(by omega),List.getElem?_eq_getElem _⟩
     obtain ⟨b,off,rfl,hbl,_,hcs⟩:=HL.out.cell hy
     have cp:w2.cell? ⟨b,off+m * 21+1,none⟩=some (.int .i64 y.f.stamp):=(HB2.out.cell (p:=⟨b,off+m * 21+1,none⟩) hbl).trans hcs
     have HLT:=Lib.hid (late_at (f:=x.f) HNS.out (show (xs.map FactV.f)[m]? = some y.f by rw [List.getElem?_map,hy];rfl))
     rw [HLT.out] at HER2
     clear hy hcs HLT
     generalize x.f.stamp=sx at *
     generalize y.f.stamp=sy at *
     by_cases hlt:sx < sy
     ·have HE8:Hid (er=8):=by show _=_;rw [HER2.out,if_pos (by simpa using hlt)]
      clear HER2 HROW
      have HN:=Lib.hid (HNO.out (by rw [HE8.out];decide))
      clear HNO
      go_wp2_with fail
      go_quiet (fail)
      go_wp2
      go_ret2
      have h:=HN.out
      rw [HE8.out] at h ⊢
      exact h _ _ (below_up (below_drewN HB2.out _) (below_alloc _ _))
     ·have HE0:Hid (er=0):=by show _=_;rw [HER2.out,if_neg (by simpa using hlt)]
      clear HER2 HNO
      go_wp2_with fail
      go_quiet (fail)
      go_wp2_with fail
      refine wp_region_held_drew (S:=fun W=>Box W w.heap.size fc 36) (by kernel_rfl) ?hS24 (fun hHeld => ?hR24)
      case hS24=>exact KX.out.below (by first | exact below_drewN (Below.refl w2.heap.size w2) _ | exact below_drewN (below_drewN (Below.refl w2.heap.size w2) _) 1)
      refine tk 1 (some 38) (?v25) rfl rfl ?hy25 ?hR25
      case hy25=>(intro W hSw;go_simp;try rfl)
      simp only [pS]
      refine tk 3 (some 40) (.agg fc) rfl rfl ?hy26 ?hR26
      case hy26=>(intro W hSw;exact yields_load rfl rfl hSw.list Tryz.underlying36 rfl HSZ.out)
      simp only [pS]
      refine wpAnyH_ready (rs:=[0,4]) (by kernel_rfl) (by simp) ?_
      refine AllReadyH.cons (o:=_) rfl (fun K hK => ?hA24) (AllReadyH.cons (o:=_) rfl (fun K hK => ?hB24) AllReadyH.nil)
      case hA24 =>
       rw [if_pos (by rfl)]
       simp only [List.getElem_toArray,List.getElem_cons_zero]
       refine step_empty rfl ?_
       intro W BE how hgw hge hlt
       have how:=Lib.hid (owns_weak (b':=w2.heap.size) how (Below.size (B:=w2.heap.size) (w:=w2) (by first | exact below_drewN (Below.refl w2.heap.size w2) _ | exact below_drewN (below_drewN (Below.refl w2.heap.size w2) _) 1)))
       have HBW:=Lib.hid (below_none (B:=w2.heap.size) (w0:=w2) (by first | exact below_drewN (Below.refl w2.heap.size w2) _ | exact below_drewN (below_drewN (Below.refl w2.heap.size w2) _) 1) hgw (Below.size (B:=w2.heap.size) (w:=w2) (by first | exact below_drewN (Below.refl w2.heap.size w2) _ | exact below_drewN (below_drewN (Below.refl w2.heap.size w2) _) 1)))
       refine hK.out _ _ ?hS27 (fun hHeld => ?hR27)
       case hS27=>exact KX.out.below HBW.out
       simp only [pS]
       refine wpAnyH_ready (rs:=[2,4]) (by kernel_rfl) (by simp) ?_
       refine AllReadyH.cons (o:=_) rfl (fun K hK => ?hC24) (AllReadyH.cons (o:=_) rfl (fun K hK => ?hD24) AllReadyH.nil)
       case hC24 =>
        rw [if_pos (by rfl)]
        simp only [List.getElem_toArray,List.getElem_cons_succ,List.getElem_cons_zero]
        refine step_list (.tmp 37) (.tmp 38) rfl w2.heap.size (.slice (some ⟨BE,0,none⟩) 0 0) (by simp [Act.eval]) how.out xs (some ⟨b,off,none⟩) c (by simp [Act.eval];exact hn.symm) (HFX.out _ HBW.out) (by rw [hn];exact hn1) (Below.size HBW.out) ?_
        intro vq W ho9 hg9
        have HBW:=Lib.hid (grown_below how.out hg9 HBW.out (Below.size HBW.out))
        rw [hn] at ho9
        have how:=Lib.hid ho9
        clear ho9 hg9
        refine hK.out _ _ ?hS28 (fun hHeld => ?hR28)
        case hS28=>exact KX.out.below HBW.out
        simp only [pS]
        refine wpAnyH_ready (rs:=[4]) (by kernel_rfl) (by simp) ?_
        refine AllReadyH.cons (o:=_) rfl (fun K hK => ?hE24) AllReadyH.nil
        rw [if_pos (by rfl)]
        simp only [List.getElem_toArray,List.getElem_cons_succ,List.getElem_cons_zero]
        refine step_fact rfl (by simp [Act.eval]) HS21.out ?_
        intro W BF hfw hgw hgf hfl
        have HFW:=Lib.hid hfw
        have how:=Lib.hid (how.out.kept hgw (by cases vq.ownBlock <;> simp))
        have HBW:=Lib.hid (below_none HBW.out hgw (Below.size HBW.out))
        refine hK.out _ _ ?hS29 (fun hHeld => ?hR29)
        case hS29=>exact KX.out.below HBW.out
        simp only [pS]
        refine wpAnyH_ready (rs:=[5]) (by kernel_rfl) (by simp) ?_
        refine AllReadyH.cons (o:=_) rfl (fun K hK => ?hF24) AllReadyH.nil
        rw [if_pos (by rfl)]
        simp only [List.getElem_toArray,List.getElem_cons_succ,List.getElem_cons_zero]
        refine wp_append_lies _ (.tmp 39) (.tmp 41) 22 rfl w2.heap.size 36 i0 zFact 21 312 Tryz.underlying22 hi hz0 hz1 hz2 rfl (by decide) vq (m+1) (flatF xs) (by simp [Act.eval]) how.out ⟨BF,0,none⟩ 1 1 (flatF [x]) (by simp [Act.eval]) (flatF_len [x]) (news_one HFW.out HFL.out) flatF_oneCell (by decide) (by unfold maxLen;omega) (by omega) (Below.size HBW.out) _ rfl ?_
        intro gg cc w10 ho10 hg10 _ _
        have HBW:=Lib.hid (grown_below how.out hg10 HBW.out (Below.size HBW.out))
        have HB10:=Lib.hid (below_up HB2.out HBW.out)
        have HO10:=Lib.hid ho10
        clear hg10 ho10
        refine hK.out _ _ ?hS31 (fun hHeld => ?hR31)
        case hS31=>exact KX.out.below HBW.out
        simp only [pS]
        refine tk 6 (some 4) (?v32) rfl rfl ?hy32 ?hR32
        case hy32=>(intro W hSw;go_simp;try rfl)
        simp only [pS]
        refine tk 7 (some 5) (?v33) rfl rfl ?hy33 ?hR33
        case hy33=>(intro W hSw;go_simp;try rfl)
        simp only [pS]
        refine wpAnyH_done (by kernel_rfl) ?_ _
        go_wp2
        go_ret2
        exact ⟨app_done (HL.out.below HB10.out) (HBX.out.below HB10.out) HO10.out hn HROW.out HE0.out,HB10.out⟩
       case hD24 =>
        rw [if_pos (by rfl)]
        simp only [List.getElem_toArray,List.getElem_cons_succ,List.getElem_cons_zero]
        refine step_fact rfl (by simp [Act.eval]) HS21.out ?_
        intro W BF hfw hgw hgf hfl
        have HFW:=Lib.hid hfw
        have how:=Lib.hid (how.out.kept hgw (.inr (by simp [Value.ownBlock])))
        have hne:BE ≠ BF:=by omega
        have HBW:=Lib.hid (below_none HBW.out hgw (Below.size HBW.out))
        refine hK.out _ _ ?hS34 (fun hHeld => ?hR34)
        case hS34=>exact KX.out.below HBW.out
        simp only [pS]
        refine wpAnyH_ready (rs:=[2]) (by kernel_rfl) (by simp) ?_
        refine AllReadyH.cons (o:=_) rfl (fun K hK => ?hG24) AllReadyH.nil
        rw [if_pos (by rfl)]
        simp only [List.getElem_toArray,List.getElem_cons_succ,List.getElem_cons_zero]
        refine step_list (.tmp 37) (.tmp 38) rfl w2.heap.size (.slice (some ⟨BE,0,none⟩) 0 0) (by simp [Act.eval]) how.out xs (some ⟨b,off,none⟩) c (by simp [Act.eval];exact hn.symm) (HFX.out _ HBW.out) (by rw [hn];exact hn1) (Below.size HBW.out) ?_
        intro vq W ho9 hg9
        have HFW:=Lib.hid ((hg9.block _ hfl (by simp [Value.ownBlock];omega)).trans HFW.out)
        have HBW:=Lib.hid (grown_below how.out hg9 HBW.out (Below.size HBW.out))
        rw [hn] at ho9
        have how:=Lib.hid ho9
        clear ho9 hg9
        refine hK.out _ _ ?hS35 (fun hHeld => ?hR35)
        case hS35=>exact KX.out.below HBW.out
        simp only [pS]
        refine wpAnyH_ready (rs:=[5]) (by kernel_rfl) (by simp) ?_
        refine AllReadyH.cons (o:=_) rfl (fun K hK => ?hI24) AllReadyH.nil
        rw [if_pos (by rfl)]
        simp only [List.getElem_toArray,List.getElem_cons_succ,List.getElem_cons_zero]
        refine wp_append_lies _ (.tmp 39) (.tmp 41) 22 rfl w2.heap.size 36 i0 zFact 21 312 Tryz.underlying22 hi hz0 hz1 hz2 rfl (by decide) vq (m+1) (flatF xs) (by simp [Act.eval]) how.out ⟨BF,0,none⟩ 1 1 (flatF [x]) (by simp [Act.eval]) (flatF_len [x]) (news_one HFW.out HFL.out) flatF_oneCell (by decide) (by unfold maxLen;omega) (by omega) (Below.size HBW.out) _ rfl ?_
        intro gg cc w10 ho10 hg10 _ _
        have HBW:=Lib.hid (grown_below how.out hg10 HBW.out (Below.size HBW.out))
        have HB10:=Lib.hid (below_up HB2.out HBW.out)
        have HO10:=Lib.hid ho10
        clear hg10 ho10
        refine hK.out _ _ ?hS37 (fun hHeld => ?hR37)
        case hS37=>exact KX.out.below HBW.out
        simp only [pS]
        refine tk 6 (some 4) (?v38) rfl rfl ?hy38 ?hR38
        case hy38=>(intro W hSw;go_simp;try rfl)
        simp only [pS]
        refine tk 7 (some 5) (?v39) rfl rfl ?hy39 ?hR39
        case hy39=>(intro W hSw;go_simp;try rfl)
        simp only [pS]
        refine wpAnyH_done (by kernel_rfl) ?_ _
        go_wp2
        go_ret2
        exact ⟨app_done (HL.out.below HB10.out) (HBX.out.below HB10.out) HO10.out hn HROW.out HE0.out,HB10.out⟩
      case hB24 =>
       rw [if_pos (by rfl)]
       simp only [List.getElem_toArray,List.getElem_cons_succ,List.getElem_cons_zero]
       refine step_fact rfl (by simp [Act.eval]) HS21.out ?_
       intro W BF hfw hgw hgf hfl
       have HFW:=Lib.hid hfw
       have HBW:=Lib.hid (below_none (B:=w2.heap.size) (w0:=w2) (by first | exact below_drewN (Below.refl w2.heap.size w2) _ | exact below_drewN (below_drewN (Below.refl w2.heap.size w2) _) 1) hgw (Below.size (B:=w2.heap.size) (w:=w2) (by first | exact below_drewN (Below.refl w2.heap.size w2) _ | exact below_drewN (below_drewN (Below.refl w2.heap.size w2) _) 1)))
       refine hK.out _ _ ?hS40 (fun hHeld => ?hR40)
       case hS40=>exact KX.out.below HBW.out
       simp only [pS]
       refine wpAnyH_ready (rs:=[0]) (by kernel_rfl) (by simp) ?_
       refine AllReadyH.cons (o:=_) rfl (fun K hK => ?hJ24) AllReadyH.nil
       rw [if_pos (by rfl)]
       simp only [List.getElem_toArray,List.getElem_cons_zero]
       refine step_empty rfl ?_
       intro W BE how hgw hge hlt
       have how:=Lib.hid (owns_weak (b':=w2.heap.size) how (Below.size HBW.out))
       have HFW:=Lib.hid ((hgw.block _ hfl (by simp)).trans HFW.out)
       have hne:BE ≠ BF:=by omega
       have hfl:=Nat.lt_of_lt_of_le hfl hgw.size
       have HBW:=Lib.hid (below_none HBW.out hgw (Below.size HBW.out))
       refine hK.out _ _ ?hS41 (fun hHeld => ?hR41)
       case hS41=>exact KX.out.below HBW.out
       simp only [pS]
       refine wpAnyH_ready (rs:=[2]) (by kernel_rfl) (by simp) ?_
       refine AllReadyH.cons (o:=_) rfl (fun K hK => ?hL24) AllReadyH.nil
       rw [if_pos (by rfl)]
       simp only [List.getElem_toArray,List.getElem_cons_succ,List.getElem_cons_zero]
       refine step_list (.tmp 37) (.tmp 38) rfl w2.heap.size (.slice (some ⟨BE,0,none⟩) 0 0) (by simp [Act.eval]) how.out xs (some ⟨b,off,none⟩) c (by simp [Act.eval];exact hn.symm) (HFX.out _ HBW.out) (by rw [hn];exact hn1) (Below.size HBW.out) ?_
       intro vq W ho9 hg9
       have HFW:=Lib.hid ((hg9.block _ hfl (by simp [Value.ownBlock];omega)).trans HFW.out)
       have HBW:=Lib.hid (grown_below how.out hg9 HBW.out (Below.size HBW.out))
       rw [hn] at ho9
       have how:=Lib.hid ho9
       clear ho9 hg9
       refine hK.out _ _ ?hS42 (fun hHeld => ?hR42)
       case hS42=>exact KX.out.below HBW.out
       simp only [pS]
       refine wpAnyH_ready (rs:=[5]) (by kernel_rfl) (by simp) ?_
       refine AllReadyH.cons (o:=_) rfl (fun K hK => ?hM24) AllReadyH.nil
       rw [if_pos (by rfl)]
       simp only [List.getElem_toArray,List.getElem_cons_succ,List.getElem_cons_zero]
       refine wp_append_lies _ (.tmp 39) (.tmp 41) 22 rfl w2.heap.size 36 i0 zFact 21 312 Tryz.underlying22 hi hz0 hz1 hz2 rfl (by decide) vq (m+1) (flatF xs) (by simp [Act.eval]) how.out ⟨BF,0,none⟩ 1 1 (flatF [x]) (by simp [Act.eval]) (flatF_len [x]) (news_one HFW.out HFL.out) flatF_oneCell (by decide) (by unfold maxLen;omega) (by omega) (Below.size HBW.out) _ rfl ?_
       intro gg cc w10 ho10 hg10 _ _
       have HBW:=Lib.hid (grown_below how.out hg10 HBW.out (Below.size HBW.out))
       have HB10:=Lib.hid (below_up HB2.out HBW.out)
       have HO10:=Lib.hid ho10
       clear hg10 ho10
       refine hK.out _ _ ?hS44 (fun hHeld => ?hR44)
       case hS44=>exact KX.out.below HBW.out
       simp only [pS]
       refine tk 6 (some 4) (?v45) rfl rfl ?hy45 ?hR45
       case hy45=>(intro W hSw;go_simp;try rfl)
       simp only [pS]
       refine tk 7 (some 5) (?v46) rfl rfl ?hy46 ?hR46
       case hy46=>(intro W hSw;go_simp;try rfl)
       simp only [pS]
       refine wpAnyH_done (by kernel_rfl) ?_ _
       go_wp2
       go_ret2
       exact ⟨app_done (HL.out.below HB10.out) (HBX.out.below HB10.out) HO10.out hn HROW.out HE0.out,HB10.out⟩
   ·have hf0':(fe == 0)=false:=by simpa using hf0
    have HEF:Hid (er=fe):=by show _=_;rw [HER.out,if_neg (by simp),if_neg h1,if_pos hf0]
    have HN:=Lib.hid (HNO.out (by rw [HEF.out];exact hf0))
    clear HER HROW HNO
    go_wp2
    go_ret2
    have h:=HN.out
    rw [HEF.out] at h ⊢
    exact h _ _ (below_up HB2.out (below_alloc _ _))
 ·have h0':(le == 0)=false:=by simpa using h0
  have HE1:Hid (er=1):=by show _=_;rw [HER.out,if_pos h0]
  have HN:=Lib.hid (HNO.out (by rw [HE1.out];decide))
  clear HER HROW HNO
  go_wp2
  go_ret2
  have h:=HN.out
  rw [HE1.out] at h ⊢
  exact h _ _ (below_up HB1.out (below_alloc _ _))
end Go.Proofs.YtgopbldkhlmbnaaGreatDoor
