/- AppendsLaw -/
import Derived.Test.YtgopbldkhlmbnaaGreatDoorJAwake
import Derived.Test.YtgopbldkhlmbnaaGreatDoorJGreat2
import Derived.Test.YtgopbldkhlmbnaaGreatDoorJRowF
import Derived.Test.YtgopbldkhlmbnaaGreatDoorJRCheck
import Derived.Test.YtgopbldkhlmbnaaGreatDoorJAppendsP
import Derived.Test.YtgopbldkhlmbnaaGreatDoorJHistP
import Derived.Test.YtgopbldkhlmbnaaGreatDoorJReads
set_option maxHeartbeats 16000000
set_option maxRecDepth 100000
namespace Go.Proofs.YtgopbldkhlmbnaaGreatDoor
open Go Go.RowKit Num
theorem cells_at {w:World} {a:Option Addr} {xs:List FactV} (h:Facts w a xs) {k:Nat} {x:FactV} (hx:xs[k]? = some x) :
  ∃ b off,a=some ⟨b,off,none⟩∧b < w.heap.size∧∀ j v,x.arr.toList[j]? = some v→w.cell? ⟨b,off+k * 21+j,none⟩=some v :=
 h.1.addr (k:=k) (cs:=x.cells) (by rw [List.getElem?_map,hx];rfl)
theorem Facts.take {w:World} {a:Option Addr} {xs:List FactV} (h:Facts w a xs) (k:Nat):Facts w a (xs.take k):=by
 refine ⟨?_,fun x hx=>h.2 x (List.mem_of_mem_take hx)⟩
 have:=h.1.take k
 rwa [← List.map_take] at this
theorem factlogAppendsLaw_nat (xs:List FactV) (x:FactV) (kn:Nat) (a:Option Addr) (c:Nat) (w:World) (hE:Env w) (hn:xs.length≤9223372036854775807) (hcap:xs.length≤c) (hr:Facts w a xs) (hf:∀ x,x∈xs→x.fits) (hb:x.f.Behind w x.pa x.oa) (hfx:x.fits) (hkn:kn < 256) :
  Calls Tryz.prog 5 #[.slice a xs.length c,.agg x.arr,.int .u8 (kn:Int)] w fun e w'=>e = .returned (.bool true)∧Below w.heap.size w w':=by
 have KX:=Lib.hid (Box.new0 w x.arr 36)
 have HB0:=Lib.hid (below_alloc w (.cells x.arr 36))
 have HG:=Lib.hid (greatAll_any xs a c _ hn (hr.below HB0.out) hf)
 have HG2:Hid (∀ W,Below w.heap.size w W→Calls Tryz.prog 14 #[.agg x.arr] W fun e w'=>(∃ g,e = .returned (.bool g)∧(g=false→x.f.tight))∧Below W.heap.size W w'):=fun W hbw=>great13_any x.f x.pa x.oa x.pc x.oc W (hb.below hbw) (by have:=hfx.npicks;unfold maxLen at this;omega) (by have:=hfx.noptions;unfold maxLen at this;omega)
 have HAW:Hid (∀ W,Below w.heap.size w W→Calls Tryz.prog 12 #[] W fun e w'=>e = .returned (.bool true)∧Below W.heap.size W w'):=fun W hb=>awake14_any W (hE.below hb)
 have HE:=Lib.hid hE
 have HR:=Lib.hid hr
 have HF:=Lib.hid hf
 have HFX:=Lib.hid hfx
 have HBX:=Lib.hid hb
 have HSZ:Hid ((Tryz.prog.info? 36).map (·.size)=some x.arr.size):=factSize x.f x.pa x.oa x.pc x.oc
 have HSTM:Hid (x.arr[1]? = some (.int .i64 x.f.stamp)):=rfl
 obtain ⟨fc,hfc⟩:∃ fc,fc=x.arr:=⟨_,rfl⟩
 have HFC:=Lib.hid hfc
 rw [← hfc] at KX HB0 HG HG2 HSZ HSTM ⊢
 clear hE hr hf hb hfx hfc
 go_enter Tryz.func5,Tryz.ntmps5
 go_wp2_with fail
 refine HG.out.mono ?_
 rintro e w1 ⟨⟨g,rfl,hg⟩,hb⟩
 have KX:=Lib.hid (KX.out.below hb)
 have HB1:=Lib.hid (below_up HB0.out hb)
 have HGS:=Lib.hid hg
 clear hb hg HG
 cases g with
 | true =>
  go_wp2_with fail
  refine (HAW.out _ HB1.out).mono ?_
  rintro e w2 ⟨rfl,hb⟩
  go_wp2
  go_ret
  exact ⟨rfl,below_up HB1.out hb⟩
 | false =>
  have HSM:=Lib.hid (HGS.out rfl)
  clear HGS
  go_wp2_with (refine wpList_load_rowG (by rfl) 36 _ rfl w.heap.size rfl 36 fc (0,0) _ KX.out.2 Tryz.underlying36 rfl HSZ.out ?_)
  refine (HG2.out _ HB1.out).mono ?_
  rintro e w2 ⟨⟨g,rfl,hg⟩,hb⟩
  have KX:=Lib.hid (KX.out.below hb)
  have HB2:=Lib.hid (below_up HB1.out hb)
  have HGS:=Lib.hid hg
  clear hb hg HG2
  cases g with
  | true =>
   go_wp2_with fail
   refine (HAW.out _ HB2.out).mono ?_
   rintro e w3 ⟨rfl,hb⟩
   go_wp2
   go_ret
   exact ⟨rfl,below_up HB2.out hb⟩
  | false =>
   have HST:=Lib.hid (HGS.out rfl)
   clear HGS
   by_cases hlen:12 < xs.length
   ·go_wp2_with fail
    refine (HAW.out _ HB2.out).mono ?_
    rintro e w3 ⟨rfl,hb⟩
    go_wp2
    go_ret
    exact ⟨rfl,below_up HB2.out hb⟩
   ·have HL:Hid (LogAt w a c xs):=⟨HR.out,fun y hy=>⟨(HSM.out.1 y hy).small,(HF.out y hy).picks⟩,by omega,hcap⟩
    have HXO:Hid x.ok:=⟨HST.out.small,HFX.out.picks⟩
    have HCK:=Lib.hid (logCheck_any xs a c w2 (HE.out.below HB2.out) HL.out.len (HL.out.below HB2.out).facts HL.out.ok)
    go_wp2_with fail
    refine HCK.out.mono ?_
    rintro e w3 ⟨rfl,hb⟩
    have KX:=Lib.hid (KX.out.below hb)
    have HB3:=Lib.hid (below_up HB2.out hb)
    clear hb HCK
    by_cases h0:lcheck (xs.map FactV.f)=0
    ·obtain ⟨k,hk⟩:∃ k,k=kn % (xs.length+1):=⟨_,rfl⟩
     have hkle:k≤xs.length:=by have:=Nat.mod_lt kn (show 0 < xs.length+1 by omega);omega
     have HCT:Hid (Calls Tryz.prog 11 #[.slice a k c] w3 fun e w'=>e = .returned (.int .i64 0)∧Below w3.heap.size w3 w'):=by
      have hl:=(HL.out.below HB3.out).take k
      have h:=logCheck_any (xs.take k) a c w3 (HE.out.below HB3.out) hl.len hl.facts hl.ok
      rw [List.length_take,Nat.min_eq_left hkle,List.map_take,lcheck_take h0 k] at h
      exact h
     have HAP:Hid (∀ W,Below w.heap.size w W→Calls Tryz.prog 15 #[.slice a xs.length c,.agg fc] W fun e w'=>(∃ a' c',e = .returned (.tuple #[.slice a' (appRow xs x).length c',.int .i64 (appErr (xs.map FactV.f) x.f)])∧Facts w' a' (appRow xs x)∧(appRow xs x).length≤c')∧Below W.heap.size W w'):=fun W hb=>by
      rw [HFC.out]
      exact append_any xs x a c W (HE.out.below hb) (HL.out.below hb) HXO.out (HBX.out.below hb)
     have HRC:Hid (∀ W,Below w.heap.size w W→Calls Tryz.prog 20 #[.agg fc] W fun e w'=>e = .returned (.int .i64 (fcheck x.f))∧Below W.heap.size W w'):=fun W hb=>by
      rw [HFC.out]
      exact RCheck13_any x.f x.pa x.oa x.pc x.oc W HST.out (HBX.out.below hb)
     have HER:Hid (appErr (xs.map FactV.f) x.f=if fcheck x.f ≠ 0 then fcheck x.f else if late (xs.map FactV.f) x.f=true then 8 else 0):=appErr_log h0 (by rw [List.length_map];omega)
     have HNS:Hid ((xs.map FactV.f).length=xs.length):=List.length_map ..
     have HROW:Hid (appRow xs x=if appErr (xs.map FactV.f) x.f=0 then xs ++ [x] else []):=rfl
     have HN8:=Lib.hid (fcheck_ne8 x.f)
     have HCA:Hid (∀ W a',appErr (xs.map FactV.f) x.f=0→∀ c',Below w.heap.size w W→Facts W a' (xs ++ [x])→Calls Tryz.prog 11 #[.slice a' (xs.length+1) c'] W fun e w'=>e = .returned (.int .i64 0)∧Below W.heap.size W w'):=fun W a' he c' hb hf=>by
      have h:=logCheck_any (xs ++ [x]) a' c' W (HE.out.below hb) (by simp;omega) hf (fun y hy=>by
       rcases List.mem_append.1 hy with hy | hy
       ·exact HL.out.ok y hy
       ·rw [List.mem_singleton] at hy;subst hy;exact HXO.out)
      have h1:fcheck x.f=0:=by
       have h2:=HER.out
       rw [he] at h2
       by_cases h3:fcheck x.f=0
       ·exact h3
       ·rw [if_pos h3] at h2;exact absurd h2.symm h3
      have h4:late (xs.map FactV.f) x.f=false:=by
       have h2:=HER.out
       rw [he,if_neg (by rw [h1];simp)] at h2
       cases h5:late (xs.map FactV.f) x.f with
       | false=>rfl
       | true=>rw [if_pos h5] at h2;cases h2
      rw [List.map_append,List.map_cons,List.map_nil,lcheck_append h0 (by rw [List.length_map];omega) h1 h4,List.length_append,List.length_singleton] at h
      exact h
     have HSL:Hid (∀ W a1 c1,Facts W a1 (xs ++ [x])→Facts W a xs→Calls Tryz.prog 19 #[.slice a1 xs.length c1,.slice a xs.length c] W fun e w'=>e = .returned (.bool true)∧Below W.heap.size W w'):=fun W a1 c1 h1 h2=>by
      have h3:=h1.take xs.length
      rw [List.take_left' rfl] at h3
      exact RSameList_any xs xs a1 a c1 c W h3 h2 rfl (fun y hy=>(HSM.out.1 y hy).sizes) (by omega)
     have HSO:Hid (∀ W,Below w.heap.size w W→Calls Tryz.prog 21 #[.agg fc,.agg fc] W fun e w'=>e = .returned (.bool true)∧Below W.heap.size W w'):=fun W hb=>by
      rw [HFC.out]
      exact RSame_any x.f x.pa x.oa x.pa x.oa x.pc x.oc x.pc x.oc W (HBX.out.below hb) (HBX.out.below hb) HST.out.sizes.1 HST.out.sizes.2
     rw [h0]
     have hz1:¬ (xs.length:Int)+1=0:=by omega
     have hkm:(kn:Int) % ((xs.length:Int)+1)=(k:Int):=by rw [hk];exact (Int.natCast_emod kn (xs.length+1)).symm
     have hkt:(kn:Int).tmod ((xs.length:Int)+1)=(k:Int):=by rw [Int.tmod_eq_emod_of_nonneg (by omega)];exact hkm
     have HZ1:=Lib.hid hz1
     have HKT:=Lib.hid hkt
     clear h0 hk hz1 hkm hkt HSM HF HFX HXO HST
     go_wp2_with (refine wpList_rem _ rfl (some 33) rfl _ _ _ _ rfl .i64 _ _ _ rfl rfl HZ1.out HKT.out ?_;simp only [pS])
     refine HCT.out.mono ?_
     rintro e w4 ⟨rfl,hb⟩
     have KX:=Lib.hid (KX.out.below hb)
     have HB4:=Lib.hid (below_up HB3.out hb)
     clear hb HCT
     go_wp2_with (refine wpList_load_row rfl 36 _ rfl w.heap.size rfl 36 fc (0,0) _ KX.out.2 Tryz.underlying36 rfl HSZ.out ?_)
     refine (HAP.out _ HB4.out).mono ?_
     rintro e w5 ⟨⟨a1,c1,rfl,hf1,hc1⟩,hb⟩
     have KX:=Lib.hid (KX.out.below hb)
     have HB5:=Lib.hid (below_up HB4.out hb)
     have HF1:=Lib.hid hf1
     have HC1:=Lib.hid hc1
     clear hb hf1 hc1 HAP
     obtain ⟨er,her⟩:∃ er,er=appErr (xs.map FactV.f) x.f:=⟨_,rfl⟩
     rw [← her] at HER HROW HCA ⊢
     clear her
     generalize fcheck x.f=fe at *
     by_cases he:er=0
     ·subst he
      have HROW2:Hid (appRow xs x=xs ++ [x]):=by have h:=HROW.out;rw [if_pos rfl] at h;exact h
      have HRL:Hid ((appRow xs x).length=xs.length+1):=by show _=_;rw [HROW2.out,List.length_append,List.length_singleton]
      rw [HRL.out] at HC1 ⊢
      rw [HROW2.out] at HF1
      obtain ⟨bm,om,rfl,hbm,hcm⟩:=cells_at (k:=xs.length) (x:=x) HF1.out (by rw [List.getElem?_append_right (Nat.le_refl _),Nat.sub_self];rfl)
      rw [← HFC.out] at hcm
      have KS:Hid (∀ W,Below w5.heap.size w5 W→Box W w.heap.size fc 36∧∀ j v,fc.toList[j]? = some v→W.cell? ⟨bm,om+xs.length * 21+j,none⟩=some v):=fun W hb=>⟨KX.out.below hb,fun j v hv=>(hb.cell (p:=⟨bm,om+xs.length * 21+j,none⟩) hbm).trans (hcm j v hv)⟩
      have HSL2:Hid (∀ W,Below w5.heap.size w5 W→Calls Tryz.prog 19 #[.slice (some ⟨bm,om,none⟩) xs.length c1,.slice a xs.length c] W fun e w'=>e = .returned (.bool true)∧Below W.heap.size W w'):=fun W hb=>HSL.out W _ c1 (HF1.out.below hb) (HR.out.below (below_up HB5.out hb))
      have HSO2:Hid (∀ W,Below w5.heap.size w5 W→Calls Tryz.prog 21 #[.agg fc,.agg fc] W fun e w'=>e = .returned (.bool true)∧Below W.heap.size W w'):=fun W hb=>HSO.out W (below_up HB5.out hb)
      have HCA2:Hid (∀ W,Below w5.heap.size w5 W→Calls Tryz.prog 11 #[.slice (some ⟨bm,om,none⟩) (xs.length+1) c1] W fun e w'=>e = .returned (.int .i64 0)∧Below W.heap.size W w'):=fun W hb=>HCA.out W _ rfl c1 (below_up HB5.out hb) (HF1.out.below hb)
      have HAW2:Hid (∀ W,Below w5.heap.size w5 W→Calls Tryz.prog 12 #[] W fun e w'=>e = .returned (.bool true)∧Below W.heap.size W w'):=fun W hb=>HAW.out W (below_up HB5.out hb)
      have hcc:xs.length+1≤c1:=HC1.out
      clear hcm HER HROW HROW2 HRL HF1 HC1 HCA HSL HSO HAW KX HRC HN8 HNS HL HR HBX HFC HSTM HE
      generalize xs.length=n at *
      have hs1:(0:Int)≤(n:Int)∧(n:Int)≤(c1:Int):=by omega
      go_wp2_with fail
      have HBc:=below_drewN (Below.refl w5.heap.size w5) 1
      refine wp_region_held_drew (S:=fun W=>Box W w.heap.size fc 36∧∀ j v,fc.toList[j]? = some v→W.cell? ⟨bm,om+n * 21+j,none⟩=some v) (by kernel_rfl) ?hS1 (fun hHeld => ?hR1)
      case hS1=>exact KS.out _ HBc
      refine tk 0 (some 77) (?v2) rfl rfl ?hy2 ?hR2
      case hy2=>(intro w hSw;(try dsimp only at hSw);go_simp;try rfl)
      simp only [pS]
      refine tk 1 (some 78) (?v3) rfl rfl ?hy3 ?hR3
      case hy3=>(intro w hSw;(try dsimp only at hSw);go_simp;try rfl)
      simp only [pS]
      refine tk 2 (some 79) (?v4) rfl rfl ?hy4 ?hR4
      case hy4=>(intro w hSw;(try dsimp only at hSw);go_simp;try rfl)
      simp only [pS]
      refine tk 3 (some 80) (?v5) rfl rfl ?hy5 ?hR5
      case hy5=>(intro w hSw;(try dsimp only at hSw);go_simp;try rfl)
      simp only [pS]
      refine tk 4 (some 81) (?v6) rfl rfl ?hy6 ?hR6
      case hy6=>(intro w hSw;(try dsimp only at hSw);go_simp;try rfl)
      simp only [pS]
      refine tk 5 (some 82) (.bool true) rfl rfl ?hy7 ?hR7
      case hy7=>(intro w hSw;go_simp;rw [IntKind.wrap_i64];omega)
      simp only [pS]
      refine tk 6 (some 83) (?v8) rfl rfl ?hy8 ?hR8
      case hy8=>(intro w hSw;(try dsimp only at hSw);go_simp;try rfl)
      simp only [pS]
      refine tk 7 (some 84) (?v9) rfl rfl ?hy9 ?hR9
      case hy9=>(intro w hSw;(try dsimp only at hSw);go_simp;try rfl)
      simp only [pS]
      refine tk 8 (some 85) (?v10) rfl rfl ?hy10 ?hR10
      case hy10=>(intro w hSw;(try dsimp only at hSw);go_simp;try rfl)
      simp only [pS]
      refine tk 9 (some 86) (?v11) rfl rfl ?hy11 ?hR11
      case hy11=>(intro w hSw;(try dsimp only at hSw);go_simp;try rfl)
      simp only [pS]
      refine tk 10 (some 87) (?v12) rfl rfl ?hy12 ?hR12
      case hy12=>(intro w hSw;(try dsimp only at hSw);go_simp;try rfl)
      simp only [pS]
      refine tk 11 (some 88) (?v13) rfl rfl ?hy13 ?hR13
      case hy13=>(intro w hSw;(try dsimp only at hSw);go_simp;try rfl)
      simp only [pS]
      refine wpAnyH_ready (rs:=[12]) (by kernel_rfl) (by simp) ?_
      refine AllReadyH.cons (o:=_) rfl (fun K hK => ?hC14) AllReadyH.nil
      rw [if_pos (by rfl)]
      go_simp
      go_at_call 19
      refine (HSL2.out _ HBc).mono ?_
      rintro e wn ⟨rfl,hbn⟩
      replace HBc:=below_up HBc hbn
      clear hbn
      go_wp2_with fail
      refine hK.out _ _ ?hS14 (fun hHeld => ?hR14)
      case hS14=>exact KS.out _ HBc
      try simp only [pS]
      refine tk 13 (some 90) (?v15) rfl rfl ?hy15 ?hR15
      case hy15=>(intro w hSw;(try dsimp only at hSw);go_simp;try rfl)
      simp only [pS]
      refine tk 14 (some 91) (?v16) rfl rfl ?hy16 ?hR16
      case hy16=>(intro w hSw;(try dsimp only at hSw);go_simp;try rfl)
      simp only [pS]
      refine tk 15 (some 92) (?v17) rfl rfl ?hy17 ?hR17
      case hy17=>(intro w hSw;(try dsimp only at hSw);go_simp;try rfl)
      simp only [pS]
      refine tk 16 (some 93) (?v18) rfl rfl ?hy18 ?hR18
      case hy18=>(intro w hSw;(try dsimp only at hSw);go_simp;try rfl)
      simp only [pS]
      refine tk 17 (some 94) (?v19) rfl rfl ?hy19 ?hR19
      case hy19=>(intro w hSw;(try dsimp only at hSw);go_simp;try rfl)
      simp only [pS]
      refine tk 18 (some 95) (.pointer (some ⟨bm,om+n * 21,none⟩)) rfl rfl ?hy20 ?hR20
      case hy20=>(intro w hSw;go_simp;intro h;omega)
      simp only [pS]
      refine tk 19 (some 96) (.agg fc) rfl rfl ?hy21 ?hR21
      case hy21=>(intro w hSw;exact yields_load rfl rfl hSw.2 Tryz.underlying36 rfl HSZ.out)
      simp only [pS]
      refine tk 20 (some 97) (.agg fc) rfl rfl ?hy22 ?hR22
      case hy22=>(intro w hSw;exact yields_load rfl rfl hSw.1.list Tryz.underlying36 rfl HSZ.out)
      simp only [pS]
      refine wpAnyH_ready (rs:=[21]) (by kernel_rfl) (by simp) ?_
      refine AllReadyH.cons (o:=_) rfl (fun K hK => ?hC23) AllReadyH.nil
      rw [if_pos (by rfl)]
      go_simp
      go_at_call 21
      refine (HSO2.out _ HBc).mono ?_
      rintro e wn ⟨rfl,hbn⟩
      replace HBc:=below_up HBc hbn
      clear hbn
      go_wp2_with fail
      refine hK.out _ _ ?hS23 (fun hHeld => ?hR23)
      case hS23=>exact KS.out _ HBc
      try simp only [pS]
      refine tk 22 (some 99) (?v24) rfl rfl ?hy24 ?hR24
      case hy24=>(intro w hSw;(try dsimp only at hSw);go_simp;try rfl)
      simp only [pS]
      refine tk 23 (some 100) (?v25) rfl rfl ?hy25 ?hR25
      case hy25=>(intro w hSw;(try dsimp only at hSw);go_simp;try rfl)
      simp only [pS]
      refine tk 24 (some 101) (?v26) rfl rfl ?hy26 ?hR26
      case hy26=>(intro w hSw;(try dsimp only at hSw);go_simp;try rfl)
      simp only [pS]
      refine wpAnyH_ready (rs:=[25]) (by kernel_rfl) (by simp) ?_
      refine AllReadyH.cons (o:=_) rfl (fun K hK => ?hC27) AllReadyH.nil
      rw [if_pos (by rfl)]
      go_simp
      go_at_call 11
      refine (HCA2.out _ HBc).mono ?_
      rintro e wn ⟨rfl,hbn⟩
      replace HBc:=below_up HBc hbn
      clear hbn
      go_wp2_with fail
      refine hK.out _ _ ?hS27 (fun hHeld => ?hR27)
      case hS27=>exact KS.out _ HBc
      try simp only [pS]
      refine tk 26 (some 103) (?v28) rfl rfl ?hy28 ?hR28
      case hy28=>(intro w hSw;(try dsimp only at hSw);go_simp;try rfl)
      simp only [pS]
      refine tk 27 (some 104) (?v29) rfl rfl ?hy29 ?hR29
      case hy29=>(intro w hSw;(try dsimp only at hSw);go_simp;try rfl)
      simp only [pS]
      refine tk 28 (some 105) (?v30) rfl rfl ?hy30 ?hR30
      case hy30=>(intro w hSw;(try dsimp only at hSw);go_simp;try rfl)
      simp only [pS]
      refine wpAnyH_ready (rs:=[29]) (by kernel_rfl) (by simp) ?_
      refine AllReadyH.cons (o:=_) rfl (fun K hK => ?hC31) AllReadyH.nil
      rw [if_pos (by rfl)]
      go_simp
      go_at_call 12
      refine (HAW2.out _ HBc).mono ?_
      rintro e wn ⟨rfl,hbn⟩
      replace HBc:=below_up HBc hbn
      clear hbn
      go_wp2_with fail
      refine hK.out _ _ ?hS31 (fun hHeld => ?hR31)
      case hS31=>exact KS.out _ HBc
      try simp only [pS]
      refine tk 30 (some 107) (?v32) rfl rfl ?hy32 ?hR32
      case hy32=>(intro w hSw;(try dsimp only at hSw);go_simp;try rfl)
      simp only [pS]
      refine tk 31 (some 6) (?v33) rfl rfl ?hy33 ?hR33
      case hy33=>(intro w hSw;(try dsimp only at hSw);go_simp;try rfl)
      simp only [pS]
      refine wpAnyH_done (by kernel_rfl) ?_ _
      go_wp2
      go_ret
      exact ⟨rfl,below_up HB5.out HBc⟩
     ·have HRL:Hid ((appRow xs x).length=0):=by have h:=HROW.out;rw [if_neg he] at h;show _=_;rw [h];rfl
      rw [HRL.out]
      clear HROW HRL HCA HSL HSO HF1 HC1
      generalize hnn:xs.length=n at *
      cases n with
      | zero =>
       have HFE:Hid (er=fe):=by
        have h:=HER.out
        rw [late_none HNS.out] at h
        by_cases h3:fe=0
        ·rw [if_neg (by rw [h3];simp),if_neg (by decide)] at h;exact absurd h he
        ·rw [if_pos h3] at h;exact h
       have he8:(er == 8)=false:=by rw [HFE.out];simpa using HN8.out
       have he0:(er == 0)=false:=by simpa using he
       clear HER HFE HN8 HRC
       go_wp2_with fail
       go_quiet (fail)
       go_wp2_with fail
       refine (HAW.out _ (below_drewN HB5.out _)).mono ?_
       rintro e w6 ⟨rfl,hb⟩
       go_wp2
       go_ret
       exact ⟨rfl,below_up (below_drewN HB5.out _) hb⟩
      | succ m =>
       obtain ⟨y,hy⟩:∃ y,xs[m]? = some y:=⟨xs[m]'(by omega),List.getElem?_eq_getElem _⟩
       obtain ⟨b,off,rfl,hbl,_,hcs⟩:=HR.out.cell hy
       have cp:w5.cell? ⟨b,off+m * 21+1,none⟩=some (.int .i64 y.f.stamp):=(HB5.out.cell (p:=⟨b,off+m * 21+1,none⟩) hbl).trans hcs
       have HLT:=Lib.hid (late_at (f:=x.f) HNS.out (show (xs.map FactV.f)[m]? = some y.f by rw [List.getElem?_map,hy];rfl))
       rw [HLT.out] at HER
       have c1:=(KX.out.cell 1).trans HSTM.out
       clear hy hcs HLT HSTM
       generalize x.f.stamp=sx at *
       generalize y.f.stamp=sy at *
       have he0:(er == 0)=false:=by simpa using he
       by_cases hlt:sx < sy
       ·by_cases hfe:fe=0
        ·subst hfe
         have HE8:Hid (er=8):=by show _=_;rw [HER.out,if_neg (by simp),if_pos (by simpa using hlt)]
         obtain rfl:er=8:=HE8.out
         clear HER HE8 HN8
         go_wp2_with fail
         go_quiet (fail)
         go_wp2_with (refine wpList_load_rowG (by rfl) 36 _ rfl w.heap.size rfl 36 fc (0,0) _ (KX.out.below (below_drewN (Below.refl w5.heap.size w5) _)).2 Tryz.underlying36 rfl HSZ.out ?_)
         refine (HRC.out _ (below_drewN HB5.out _)).mono ?_
         rintro e w6 ⟨rfl,hb⟩
         have HB6:=Lib.hid (below_up (below_drewN HB5.out _) hb)
         clear hb
         go_wp2_with fail
         refine (HAW.out _ HB6.out).mono ?_
         rintro e w7 ⟨rfl,hb⟩
         go_wp2
         go_ret
         exact ⟨rfl,below_up HB6.out hb⟩
        ·have HE8:Hid (er=fe):=by show _=_;rw [HER.out,if_pos hfe]
         obtain rfl:er=fe:=HE8.out
         have he8:(er == 8)=false:=by simpa using HN8.out
         clear HER HE8 HN8
         go_wp2_with fail
         go_quiet (fail)
         go_wp2_with (refine wpList_load_rowG (by rfl) 36 _ rfl w.heap.size rfl 36 fc (0,0) _ (KX.out.below (below_drewN (Below.refl w5.heap.size w5) _)).2 Tryz.underlying36 rfl HSZ.out ?_)
         refine (HRC.out _ (below_drewN HB5.out _)).mono ?_
         rintro e w6 ⟨rfl,hb⟩
         have HB6:=Lib.hid (below_up (below_drewN HB5.out _) hb)
         clear hb
         go_wp2_with fail
         refine (HAW.out _ HB6.out).mono ?_
         rintro e w7 ⟨rfl,hb⟩
         go_wp2
         go_ret
         exact ⟨rfl,below_up HB6.out hb⟩
       ·have HFE:Hid (er=fe):=by
         have h:=HER.out
         by_cases h3:fe=0
         ·rw [if_neg (by rw [h3];simp),if_neg (by simpa using hlt)] at h;exact absurd h he
         ·rw [if_pos h3] at h;exact h
        have he8:(er == 8)=false:=by rw [HFE.out];simpa using HN8.out
        clear HER HFE HN8 HRC
        go_wp2_with fail
        go_quiet (fail)
        go_wp2_with fail
        refine (HAW.out _ (below_drewN HB5.out _)).mono ?_
        rintro e w6 ⟨rfl,hb⟩
        go_wp2
        go_ret
        exact ⟨rfl,below_up (below_drewN HB5.out _) hb⟩
    ·have h0':(lcheck (xs.map FactV.f) != 0)=true:=by simpa using h0
     generalize lcheck (xs.map FactV.f)=le at *
     go_wp2_with fail
     refine (HAW.out _ HB3.out).mono ?_
     rintro e w4 ⟨rfl,hb⟩
     go_wp2
     go_ret
     exact ⟨rfl,below_up HB3.out hb⟩
theorem factlogAppendsLaw_any (xs:List FactV) (x:FactV) (at_:Int) (a:Option Addr) (c:Nat) (w:World) (hE:Env w) (hn:xs.length≤9223372036854775807) (hcap:xs.length≤c) (hr:Facts w a xs) (hf:∀ x,x∈xs→x.fits) (hb:x.f.Behind w x.pa x.oa) (hfx:x.fits) (h0:0≤at_) (h1:at_≤255) :
  Calls Tryz.prog 5 #[.slice a xs.length c,.agg x.arr,.int .u8 at_] w fun e w'=>e = .returned (.bool true)∧Below w.heap.size w w':=by
 obtain ⟨kn,rfl⟩:∃ kn:Nat,at_=(kn:Int):=⟨at_.toNat,by omega⟩
 exact factlogAppendsLaw_nat xs x kn a c w hE hn hcap hr hf hb hfx (by omega)
end Go.Proofs.YtgopbldkhlmbnaaGreatDoor
