/- PriceValuesProof -/
import Derived.Test.YtejkibnaidiklaaGreatDoorJPriceValuesA
import Derived.Test.YtejkibnaidiklaaGreatDoorJOpen
import Derived.Test.YtejkibnaidiklaaGreatDoorCards
import Derived.Test.YtejkibnaidiklaaGreatDoorTie
import Derived.SevenTiedAt
set_option maxHeartbeats 16000000
set_option maxRecDepth 100000
namespace Go.Proofs.YtejkibnaidiklaaGreatDoor.priceValues
open Go.RowKit Num Dt Go.ChangeShapes Go.WideShapes Go.ChangeAt
theorem own:ownKnob Tryz.prog.godebug=none:=by kernel_rfl
theorem lifted(os:Os)(started:os.Started)(H:Type)(enc:TypeId×Value→H):
  ReturnsInHanded {} Tryz.checked os 4 .any (fun w args=>(Rows.priceValuesSpec.pre enc Tryz.prog Tryz.f4 Rows.priceValuesRow.domain false w args∧laidMetH Tryz.prog Rows.priceValuesRow.laid w)∧sizedMet enc Tryz.prog Tryz.f4 (OpenSpec.ofChange Rows.priceValuesSpec) false w args)
   (Rows.priceValuesSpec.post enc Tryz.prog Tryz.f4 false true false false):=by
 refine oZ (C:=Tryz.checked) (X:=fun w _=>laidMetH Tryz.prog Rows.priceValuesRow.laid w) (fun _ _ _ hh h=>h.of_heap hh) own started (by kernel_rfl) Tryz.func4
  (ChangeSpec.witness_shaped (enc:=enc) (C:=Tryz.checked) (os:=os) (X:=fun w _=>laidMetH Tryz.prog Rows.priceValuesRow.laid w) false (World.laidAll Tryz.prog os Rows.priceValuesRow.laid) #[.agg #[.string ⟨#[]⟩,.string ⟨#[]⟩],.string ⟨#[]⟩,.string ⟨#[]⟩] 8 (World.laidAll_os _ _ _)
   (World.shaped_of_ZipB (by kernel_rfl) (by kernel_rfl)) (by kernel_rfl) (by kernel_rfl) (by kernel_rfl)
   (by rw[MakeChecks.laidMetH_plain _ _ _ (by kernel_rfl)];exact laidMet_laidAll _ (by kernel_rfl) (by kernel_rfl))) ?_
 intro W base args ds gs before hval0 hW hsh hL;have hval:∀(j:Nat) t v,Tryz.f4.params[j]?=some t→args[j]?=some v→Value.okWide Tryz.prog W .any base t v:=hval0
 have hW':=hW;obtain⟨p,q,hA0,hV,rfl,hfz,hnd⟩:=hW;have hA:DataW.TrodAll enc Tryz.prog W 0 (fun _=>true) true Tryz.f4.params.toList args.toList ds p:=hA0;rw[Tryz.params4] at hA hval;obtain⟨v0,vs0,d0,ds0,p0,q0,hargs,rfl,rfl,h0,r0⟩:=trodAll_cons hA;obtain⟨v1,vs1,d1,ds1,p1,q1,rfl,rfl,rfl,h1,r1⟩:=trodAll_cons r0;obtain⟨v2,vs2,d2,ds2,p2,q2,rfl,rfl,rfl,h2,r2⟩:=trodAll_cons r1;obtain⟨rfl,rfl,rfl⟩:=trodAll_nil r2;obtain rfl:args=#[v0,v1,v2]:=by cases args;simp_all
 obtain⟨rfl,rfl⟩:=trodVars_none hV;have hlt:=fun p hp=>hW'.lt p hp
 have hE:iE W:=Lt hsh (List.mem_of_getElem? (show Rows.priceValuesRow.laid[2]?=some _ from rfl)) (List.mem_of_getElem? (show Rows.priceValuesRow.laid[5]?=some _ from rfl)) (List.mem_of_getElem? (show Rows.priceValuesRow.laid[4]?=some _ from rfl)) ((MakeChecks.laidMetH_plain _ _ _ (by kernel_rfl)).mp hL);obtain⟨n0,m0,rfl⟩:=bAn (hval 0 28 v0 rfl rfl) h0;obtain⟨s1,rfl,rfl,rfl,wf1⟩:=Go.ChangeMaps.open_string Tryz.underlying26 (hval 1 26 v1 rfl rfl) h1;obtain⟨s2,rfl,rfl,rfl,wf2⟩:=Go.ChangeMaps.open_string Tryz.underlying26 (hval 2 26 v2 rfl rfl) h2;simp only[List.append_nil] at hW' hlt;refine(aYu n0 m0 s1.data.toList s2.data.toList   W hE ).mono fun e W' ⟨he,hg⟩=>?_
 subst he;exact⟨_,rfl,sE (pa:=p0) (pv:=[]) hW' (fun _ _ _=>(trodAll_cons_mk (shut_bool Tryz.underlying4 _) trodAll_mk0))
  (fun sp hsp=>(by have ht:=(trodAll_cons_mk (WideElems.Trod_stays (by kernel_rfl) (by kernel_rfl) (of_decide_eq_true (by kernel_rfl)) h0 (fun p hp=>hg.same (hlt p (by simp[hp]))) (fun p hp=>hsp p (by simp[hp]))) (trodAll_cons_mk (Go.ChangeMaps.shut_string Tryz.underlying26 wf1) (trodAll_cons_mk (Go.ChangeMaps.shut_string Tryz.underlying26 wf2) trodAll_mk0)));simp only[List.append_nil] at ht;exact ht)) (fun _ _=>rfl) (by simp)
  hg (ok_one (by kernel_rfl) rfl (okWide_bool_mk Tryz.underlying4 _))⟩
theorem joined:joinedFacts Tryz.checked.prog 4 Tryz.f4 Rows.priceValuesSpec Rows.priceValuesRow=true:=by kernel_rfl
theorem over:Rows.PriceValuesSaid :=
 OpenClaim.holds_of_wide 4 Tryz.f4 rfl rfl rfl rfl rfl rfl rfl ⟨rfl,rfl,rfl,rfl,rfl⟩ rfl rfl rfl rfl rfl (by kernel_rfl) Tryz.func4 joined
  (of_decide_eq_true (by kernel_rfl)) (by unfold Func.isWrapper;first|(rw[if_pos (by decide +kernel)];kernel_rfl)|(rw[if_neg (by decide +kernel)];exact⟨rfl,rfl⟩))
  (fun os started H enc _=>lifted os started H enc)
theorem proved:Rows.PriceValuesCardSaid :=
 Claim7.holds_tied_plain_at .later [] Rows.priceValuesCard.laidKinds true Rows.priceValuesCard.stood.harness true over (fun _ h=>by cases h) (by kernel_rfl) (fun _ h=>by cases h) priceValues_row_tie rfl ⟨rfl,rfl⟩ (by kernel_rfl) rfl
  (fun f fn hf hfn=>by
   obtain rfl : f = 4 := Option.some.inj ((show Tryz.prog.funcNamed "tranche/tranchelaw17.PriceValues" = some 4 by kernel_rfl).symm.trans hf) |>.symm
   obtain rfl:fn=Tryz.f4:=(Option.some.inj (Tryz.func4.symm.trans hfn)).symm;exact⟨by kernel_rfl,fun j t ht=>by
    rw[Tryz.params4] at ht;have hm:t∈[28,26,26]:=by simpa using Array.mem_of_getElem? ht
    have hall:([28,26,26].all fun u=>!Tryz.prog.wantsStandIn u)=true:=by kernel_rfl
    exact(show Tryz.prog.wantsStandIn t=false by simpa using List.all_eq_true.1 hall t hm)⟩)
  (by kernel_rfl)
#print axioms proved
end Go.Proofs.YtejkibnaidiklaaGreatDoor.priceValues
