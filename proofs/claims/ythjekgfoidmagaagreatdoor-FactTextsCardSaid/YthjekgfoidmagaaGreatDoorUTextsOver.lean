/- FactTextsOver -/
import Derived.Test.YthjekgfoidmagaaGreatDoorUTextsLaw
import Derived.Test.YthjekgfoidmagaaGreatDoorUOpenF
import Derived.Test.YthjekgfoidmagaaGreatDoorCards
import Derived.Test.YthjekgfoidmagaaGreatDoorTie
set_option maxHeartbeats 16000000
set_option maxRecDepth 100000
namespace Go.Proofs.YthjekgfoidmagaaGreatDoor.factTexts
open Go.RowKit Num Dt Go.ChangeShapes Go.WideShapes Go.ChangeAt
theorem own:ownKnob Tryz.prog.godebug=none:=by kernel_rfl
theorem lifted(os:Os)(started:os.Started)(H:Type)(enc:TypeId×Value->H):
  ReturnsInHanded {} Tryz.checked os 8 .any (fun w args=>(Rows.factTextsSpec.pre enc Tryz.prog Tryz.f8 Rows.factTextsRow.domain false w args/\laidMetH Tryz.prog Rows.factTextsRow.laid w)/\sizedMet enc Tryz.prog Tryz.f8 (OpenSpec.ofChange Rows.factTextsSpec) false w args)
   (Rows.factTextsSpec.post enc Tryz.prog Tryz.f8 false true false false):=by
 refine oZ (C:=Tryz.checked) (X:=fun w _=>laidMetH Tryz.prog Rows.factTextsRow.laid w) (fun _ _ _ hh h=>h.of_heap hh) own started (by kernel_rfl) Tryz.func8
  (ChangeSpec.witness_shaped (enc:=enc) (C:=Tryz.checked) (os:=os) (X:=fun w _=>laidMetH Tryz.prog Rows.factTextsRow.laid w) false (World.laidAll Tryz.prog os Rows.factTextsRow.laid) #[.agg #[.string ⟨#[]⟩,.int .i64 0,.bool false,.int .i64 0,.int .i64 0,.string ⟨#[]⟩,.string ⟨#[]⟩,.string ⟨#[]⟩,.string ⟨#[]⟩,.string ⟨#[]⟩,.string ⟨#[]⟩,.string ⟨#[]⟩,.string ⟨#[]⟩,.string ⟨#[]⟩,.string ⟨#[]⟩,.string ⟨#[]⟩,.string ⟨#[]⟩,.string ⟨#[]⟩,.slice none 0 0,.slice none 0 0,.int .i64 0],.string ⟨#[]⟩] 8 (World.laidAll_os _ _ _)
   (World.shaped_of_ZipB (by kernel_rfl) (by kernel_rfl)) (by kernel_rfl) (by kernel_rfl) (by kernel_rfl)
   (by rw[MakeChecks.laidMetH_plain _ _ _ (by kernel_rfl)];exact laidMet_laidAll _ (by kernel_rfl) (by kernel_rfl))) ?_
 intro W base args ds gs before hval0 hW hsh hL;have hval:∀(j:Nat) t v,Tryz.f8.params[j]?=some t->args[j]?=some v->Value.okWide Tryz.prog W .any base t v:=hval0
 have hW':=hW;obtain⟨p,q,hA0,hV,rfl,hfz,hnd⟩:=hW;have hA:DataW.TrodAll enc Tryz.prog W 0 (fun _=>true) true Tryz.f8.params.toList args.toList ds p:=hA0;rw[Tryz.params8] at hA hval;obtain⟨v0,vs0,d0,ds0,p0,q0,hargs,rfl,rfl,h0,r0⟩:=trodAll_cons hA;obtain⟨v1,vs1,d1,ds1,p1,q1,rfl,rfl,rfl,h1,r1⟩:=trodAll_cons r0;obtain⟨rfl,rfl,rfl⟩:=trodAll_nil r1;obtain rfl:args=#[v0,v1]:=by cases args;simp_all
 obtain⟨rfl,rfl⟩:=trodVars_none hV;have hlt:=fun p hp=>hW'.lt p hp
 have hE:iE W:=Lt hsh (List.mem_of_getElem? (show Rows.factTextsRow.laid[2]?=some _ from rfl)) (List.mem_of_getElem? (show Rows.factTextsRow.laid[5]?=some _ from rfl)) (List.mem_of_getElem? (show Rows.factTextsRow.laid[4]?=some _ from rfl)) ((MakeChecks.laidMetH_plain _ _ _ (by kernel_rfl)).mp hL);obtain⟨x0,rfl,hbh0,hfit0⟩:=uU (hval 0 29 v0 rfl rfl) h0;obtain⟨s1,rfl,rfl,rfl,wf1⟩:=Go.ChangeMaps.open_string Tryz.underlying9 (hval 1 9 v1 rfl rfl) h1;simp only[List.append_nil] at hW' hlt;refine(bXw x0 s1.data.toList   W hE hbh0 hfit0).mono fun e W' ⟨he,hg⟩=>?_
 subst he;exact⟨_,rfl,sE (pa:=p0) (pv:=[]) hW' (fun _ _ _=>(trodAll_cons_mk (shut_bool Tryz.underlying4 _) trodAll_mk0))
  (fun sp hsp=>(by have ht:=(trodAll_cons_mk (WideElems.Trod_stays (by kernel_rfl) (by kernel_rfl) (of_decide_eq_true (by kernel_rfl)) h0 (fun p hp=>hg.same (hlt p (by simp[hp]))) (fun p hp=>hsp p (by simp[hp]))) (trodAll_cons_mk (Go.ChangeMaps.shut_string Tryz.underlying9 wf1) trodAll_mk0));simp only[List.append_nil] at ht;exact ht)) (fun _ _=>rfl) (by simp)
  hg (ok_one (by kernel_rfl) rfl (okWide_bool_mk Tryz.underlying4 _))⟩
theorem joined:joinedFacts Tryz.checked.prog 8 Tryz.f8 Rows.factTextsSpec Rows.factTextsRow=true:=by kernel_rfl
theorem over:Rows.FactTextsSaid :=
 OpenClaim.holds_of_wide 8 Tryz.f8 rfl rfl rfl rfl rfl rfl rfl ⟨rfl,rfl,rfl,rfl,rfl⟩ rfl rfl rfl rfl rfl (by kernel_rfl) Tryz.func8 joined
  (of_decide_eq_true (by kernel_rfl)) (by unfold Func.isWrapper;first|(rw[if_pos (by decide +kernel)];kernel_rfl)|(rw[if_neg (by decide +kernel)];exact⟨rfl,rfl⟩))
  (fun os started H enc _=>lifted os started H enc)
end Go.Proofs.YthjekgfoidmagaaGreatDoor.factTexts
