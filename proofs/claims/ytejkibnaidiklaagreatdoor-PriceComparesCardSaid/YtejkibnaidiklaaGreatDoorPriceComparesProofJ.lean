/- PriceComparesProof -/
import Derived.Test.YtejkibnaidiklaaGreatDoorJPriceLatestA
import Derived.Test.YtejkibnaidiklaaGreatDoorCards
import Derived.Test.YtejkibnaidiklaaGreatDoorTie
set_option maxHeartbeats 16000000
set_option maxRecDepth 100000
namespace Go.Proofs.YtejkibnaidiklaaGreatDoor.priceCompares
open Go.RowKit Num Dt Go.ChangeShapes Go.WideShapes Go.ChangeAt
theorem own:ownKnob Tryz.prog.godebug=none:=by kernel_rfl
theorem lifted(os:Os)(started:os.Started)(H:Type)(enc:TypeId×Value->H):
  ReturnsInHanded {} Tryz.checked os 8 .any (fun w args=>(Rows.priceComparesSpec.pre enc Tryz.prog Tryz.f8 Rows.priceComparesRow.domain false w args/\laidMetH Tryz.prog Rows.priceComparesRow.laid w)/\sizedMet enc Tryz.prog Tryz.f8 (OpenSpec.ofChange Rows.priceComparesSpec) false w args)
   (Rows.priceComparesSpec.post enc Tryz.prog Tryz.f8 false true false false):=by
 refine oZ (C:=Tryz.checked) (X:=fun w _=>laidMetH Tryz.prog Rows.priceComparesRow.laid w) (fun _ _ _ hh h=>h.of_heap hh) own started (by kernel_rfl) Tryz.func8
  (ChangeSpec.witness_shaped (enc:=enc) (C:=Tryz.checked) (os:=os) (X:=fun w _=>laidMetH Tryz.prog Rows.priceComparesRow.laid w) false (World.laidAll Tryz.prog os Rows.priceComparesRow.laid) #[.slice none 0 0,.string ⟨#[]⟩,.int .i64 0,.int .i64 0,.slice none 0 0,.int .i64 0] 8 (World.laidAll_os _ _ _)
   (World.shaped_of_ZipB (by kernel_rfl) (by kernel_rfl)) (by kernel_rfl) (by kernel_rfl) (by kernel_rfl)
   (by rw[MakeChecks.laidMetH_plain _ _ _ (by kernel_rfl)];exact laidMet_laidAll _ (by kernel_rfl) (by kernel_rfl))) ?_
 intro W base args ds gs before hval0 hW hsh hL;have hval:∀(j:Nat) t v,Tryz.f8.params[j]?=some t->args[j]?=some v->Value.okWide Tryz.prog W .any base t v:=hval0
 have hW':=hW;obtain⟨p,q,hA0,hV,rfl,hfz,hnd⟩:=hW;have hA:DataW.TrodAll enc Tryz.prog W 0 (fun _=>true) true Tryz.f8.params.toList args.toList ds p:=hA0;rw[Tryz.params8] at hA hval;obtain⟨v0,vs0,d0,ds0,p0,q0,hargs,rfl,rfl,h0,r0⟩:=trodAll_cons hA;obtain⟨v1,vs1,d1,ds1,p1,q1,rfl,rfl,rfl,h1,r1⟩:=trodAll_cons r0;obtain⟨v2,vs2,d2,ds2,p2,q2,rfl,rfl,rfl,h2,r2⟩:=trodAll_cons r1;obtain⟨v3,vs3,d3,ds3,p3,q3,rfl,rfl,rfl,h3,r3⟩:=trodAll_cons r2;obtain⟨v4,vs4,d4,ds4,p4,q4,rfl,rfl,rfl,h4,r4⟩:=trodAll_cons r3;obtain⟨v5,vs5,d5,ds5,p5,q5,rfl,rfl,rfl,h5,r5⟩:=trodAll_cons r4;obtain⟨rfl,rfl,rfl⟩:=trodAll_nil r5;obtain rfl:args=#[v0,v1,v2,v3,v4,v5]:=by cases args;simp_all
 obtain⟨rfl,rfl⟩:=trodVars_none hV;have hlt:=fun p hp=>hW'.lt p hp
 have hE:iE W:=Lt hsh (List.mem_of_getElem? (show Rows.priceComparesRow.laid[2]?=some _ from rfl)) (List.mem_of_getElem? (show Rows.priceComparesRow.laid[5]?=some _ from rfl)) (List.mem_of_getElem? (show Rows.priceComparesRow.laid[4]?=some _ from rfl)) ((MakeChecks.laidMetH_plain _ _ _ (by kernel_rfl)).mp hL);obtain⟨a0,c0,fs0,rfl,hc0,hm0,hls0,hfit0⟩:=sH (hval 0 22 v0 rfl rfl) h0;obtain⟨s1,rfl,rfl,rfl,wf1⟩:=Go.ChangeMaps.open_string Tryz.underlying9 (hval 1 9 v1 rfl rfl) h1;obtain⟨x2,rfl,rfl,rfl,wf2⟩:=open_int Tryz.underlying23 (hval 2 23 v2 rfl rfl) h2;obtain⟨x3,rfl,rfl,rfl,wf3⟩:=open_int Tryz.underlying23 (hval 3 23 v3 rfl rfl) h3;obtain⟨a4,c4,ss4,rfl,hc4,hm4,hls4⟩:=aRy (hval 4 62 v4 rfl rfl) h4;obtain⟨x5,rfl,rfl,rfl,wf5⟩:=open_int Tryz.underlying3 (hval 5 3 v5 rfl rfl) h5;simp only[List.append_nil] at hW' hlt;refine(aWq fs0 s1.data.toList x2 x3 ss4 x5 a0 a4 c0 c4 W hE (by unfold maxLen at hm0;omega) hc0 hls0 hfit0 (by unfold maxLen at hm4;omega) hc4 hls4).mono fun e W' ⟨he,hg⟩=>?_
 subst he;exact⟨_,rfl,sE (pa:=p0++p4) (pv:=[]) hW' (fun _ _ _=>(trodAll_cons_mk (shut_bool Tryz.underlying4 _) trodAll_mk0))
  (fun sp hsp=>(by have ht:=(trodAll_cons_mk (WideElems.Trod_stays (by kernel_rfl) (by kernel_rfl) (of_decide_eq_true (by kernel_rfl)) h0 (fun p hp=>hg.same (hlt p (by simp[hp]))) (fun p hp=>hsp p (by simp[hp]))) (trodAll_cons_mk (Go.ChangeMaps.shut_string Tryz.underlying9 wf1) (trodAll_cons_mk (shut_int Tryz.underlying23 wf2) (trodAll_cons_mk (shut_int Tryz.underlying23 wf3) (trodAll_cons_mk (WideElems.Trod_stays (by kernel_rfl) (by kernel_rfl) (of_decide_eq_true (by kernel_rfl)) h4 (fun p hp=>hg.same (hlt p (by simp[hp]))) (fun p hp=>hsp p (by simp[hp]))) (trodAll_cons_mk (shut_int Tryz.underlying3 wf5) trodAll_mk0))))));simp only[List.append_nil] at ht;exact ht)) (fun _ _=>rfl) (by simp)
  hg (ok_one (by kernel_rfl) rfl (okWide_bool_mk Tryz.underlying4 _))⟩
theorem joined:joinedFacts Tryz.checked.prog 8 Tryz.f8 Rows.priceComparesSpec Rows.priceComparesRow=true:=by kernel_rfl
theorem over:Rows.PriceComparesSaid :=
 OpenClaim.holds_of_wide 8 Tryz.f8 rfl rfl rfl rfl rfl rfl rfl ⟨rfl,rfl,rfl,rfl,rfl⟩ rfl rfl rfl rfl rfl (by kernel_rfl) Tryz.func8 joined
  (of_decide_eq_true (by kernel_rfl)) (by unfold Func.isWrapper;first|(rw[if_pos (by decide +kernel)];kernel_rfl)|(rw[if_neg (by decide +kernel)];exact⟨rfl,rfl⟩))
  (fun os started H enc _=>lifted os started H enc)
theorem proved:Rows.PriceComparesCardSaid :=
 Claim7.holds_tied_plain_at .later [] Rows.priceComparesCard.laidKinds true Rows.priceComparesCard.stood.harness true over (fun _ h=>by cases h) (by kernel_rfl) (fun _ h=>by cases h) priceCompares_row_tie rfl ⟨rfl,rfl⟩ (by kernel_rfl) rfl
  (fun f fn hf hfn=>by
   obtain rfl : f = 8 := Option.some.inj ((show Tryz.prog.funcNamed "tranche/tranchelaw17.PriceCompares" = some 8 by kernel_rfl).symm.trans hf) |>.symm
   obtain rfl:fn=Tryz.f8:=(Option.some.inj (Tryz.func8.symm.trans hfn)).symm;exact⟨by kernel_rfl,fun j t ht=>by
    rw[Tryz.params8] at ht;have hm:t∈[22,9,23,23,62,3]:=by simpa using Array.mem_of_getElem? ht
    have hall:([22,9,23,23,62,3].all fun u=>!Tryz.prog.wantsStandIn u)=true:=by kernel_rfl
    exact(show Tryz.prog.wantsStandIn t=false by simpa using List.all_eq_true.1 hall t hm)⟩)
  (by kernel_rfl)
#print axioms proved
end Go.Proofs.YtejkibnaidiklaaGreatDoor.priceCompares
