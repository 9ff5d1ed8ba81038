/- OpenFact FactChecksOver -/
import Derived.Test.YthjekgfoidmagaaGreatDoorUChkLaw
import Derived.Test.YthjekgfoidmagaaGreatDoorUChkJoin
import Derived.Test.YthjekgfoidmagaaGreatDoorCards
import Derived.Test.YthjekgfoidmagaaGreatDoorTie
set_option maxHeartbeats 16000000
set_option maxRecDepth 100000
section
namespace Go.Proofs.YthjekgfoidmagaaGreatDoor
open Go.Proofs.Tryz
open Go.RowKit Num Dt Go.ChangeShapes Go.WideShapes Go.ChangeAt
section
variable {H:Type}{enc:TypeId×Value->H}{w:World}{base:Nat}{held:Bool}
theorem uU{v:Value}{d:DataW H}{ps:List MemPlace}(hv:Value.okWide prog w .any base 29 v)(h:DataW.Trod enc prog w 0 (fun _=>true) held 29 v d ps):
  ∃x:aF,v=.agg x.arr/\x.f.Behind w x.pa x.oa/\x.fits:=by
 obtain⟨cs,rfl,_⟩:=okWide_struct underlying29 hv;obtain⟨n,hn⟩:=h;obtain⟨x,e,h1,h2⟩:=tK hn;refine⟨x,?_,h1,h2⟩;have e2:cs.toList=x.arr.toList:=e;rw[Array.toList_inj.1 e2]
end
end Go.Proofs.YthjekgfoidmagaaGreatDoor
end
section
namespace Go.Proofs.YthjekgfoidmagaaGreatDoor.factChecks
open Go.Proofs.Tryz
open Go.RowKit Num Dt Go.ChangeShapes Go.WideShapes Go.ChangeAt
theorem own:ownKnob prog.godebug=none:=by kernel_rfl
theorem lifted(os:Os)(started:os.Started)(H:Type)(enc:TypeId×Value->H):
  ReturnsInHanded {} checked os 3 .any (fun w args=>(Rows.factChecksSpec.pre enc prog Tryz.f3 Rows.factChecksRow.domain false w args/\laidMetH prog Rows.factChecksRow.laid w)/\sizedMet enc prog Tryz.f3 (OpenSpec.ofChange Rows.factChecksSpec) false w args)
   (Rows.factChecksSpec.post enc prog Tryz.f3 false true false false):=by
 refine oZ (C:=checked) (X:=fun w _=>laidMetH prog Rows.factChecksRow.laid w) (fun _ _ _ hh h=>h.of_heap hh) own started (by kernel_rfl) func3
  (ChangeSpec.witness_shaped (enc:=enc) (C:=checked) (os:=os) (X:=fun w _=>laidMetH prog Rows.factChecksRow.laid w) false (World.laidAll prog os Rows.factChecksRow.laid) #[.agg #[.string ⟨#[]⟩,.int .i64 0,.bool false,.int .i64 0,.int .i64 0,.string ⟨#[]⟩,.string ⟨#[]⟩,.string ⟨#[]⟩,.string ⟨#[]⟩,.string ⟨#[]⟩,.string ⟨#[]⟩,.string ⟨#[]⟩,.string ⟨#[]⟩,.string ⟨#[]⟩,.string ⟨#[]⟩,.string ⟨#[]⟩,.string ⟨#[]⟩,.string ⟨#[]⟩,.slice none 0 0,.slice none 0 0,.int .i64 0],.agg #[.string ⟨#[]⟩,.int .i64 0,.bool false,.int .i64 0,.int .i64 0,.string ⟨#[]⟩,.string ⟨#[]⟩,.string ⟨#[]⟩,.string ⟨#[]⟩,.string ⟨#[]⟩,.string ⟨#[]⟩,.string ⟨#[]⟩,.string ⟨#[]⟩,.string ⟨#[]⟩,.string ⟨#[]⟩,.string ⟨#[]⟩,.string ⟨#[]⟩,.string ⟨#[]⟩,.slice none 0 0,.slice none 0 0,.int .i64 0]] 8 (World.laidAll_os _ _ _)
   (World.shaped_of_ZipB (by kernel_rfl) (by kernel_rfl)) (by kernel_rfl) (by kernel_rfl) (by kernel_rfl)
   (by rw[MakeChecks.laidMetH_plain _ _ _ (by kernel_rfl)];exact laidMet_laidAll _ (by kernel_rfl) (by kernel_rfl))) ?_
 intro W base args ds gs before hval0 hW hsh hL;have hval:∀(j:Nat) t v,Tryz.f3.params[j]?=some t->args[j]?=some v->Value.okWide prog W .any base t v:=hval0
 have hW':=hW;obtain⟨p,q,hA0,hV,rfl,hfz,hnd⟩:=hW;have hA:DataW.TrodAll enc prog W 0 (fun _=>true) true Tryz.f3.params.toList args.toList ds p:=hA0;rw[params3] at hA hval;obtain⟨v0,vs0,d0,ds0,p0,q0,hargs,rfl,rfl,h0,r0⟩:=trodAll_cons hA;obtain⟨v1,vs1,d1,ds1,p1,q1,rfl,rfl,rfl,h1,r1⟩:=trodAll_cons r0;obtain⟨rfl,rfl,rfl⟩:=trodAll_nil r1;obtain rfl:args=#[v0,v1]:=by cases args;simp_all
 obtain⟨rfl,rfl⟩:=trodVars_none hV;have hlt:=fun p hp=>hW'.lt p hp
 have hE:iE W:=Lt hsh (List.mem_of_getElem? (show Rows.factChecksRow.laid[2]?=some _ from rfl)) (List.mem_of_getElem? (show Rows.factChecksRow.laid[5]?=some _ from rfl)) (List.mem_of_getElem? (show Rows.factChecksRow.laid[4]?=some _ from rfl)) ((MakeChecks.laidMetH_plain _ _ _ (by kernel_rfl)).mp hL);obtain⟨x0,rfl,hbh0,hfit0⟩:=uU (hval 0 29 v0 rfl rfl) h0;obtain⟨x1,rfl,hbh1,hfit1⟩:=uU (hval 1 29 v1 rfl rfl) h1;simp only[List.append_nil] at hW' hlt;refine(bX0 x0 x1   W hE hbh0 hfit0 hbh1 hfit1).mono fun e W' ⟨he,hg⟩=>?_
 subst he;exact⟨_,rfl,sE (pa:=p0++p1) (pv:=[]) hW' (fun _ _ _=>(trodAll_cons_mk (shut_bool underlying4 _) trodAll_mk0))
  (fun sp hsp=>(by have ht:=(trodAll_cons_mk (WideElems.Trod_stays (by kernel_rfl) (by kernel_rfl) (of_decide_eq_true (by kernel_rfl)) h0 (fun p hp=>hg.same (hlt p (by simp[hp]))) (fun p hp=>hsp p (by simp[hp]))) (trodAll_cons_mk (WideElems.Trod_stays (by kernel_rfl) (by kernel_rfl) (of_decide_eq_true (by kernel_rfl)) h1 (fun p hp=>hg.same (hlt p (by simp[hp]))) (fun p hp=>hsp p (by simp[hp]))) trodAll_mk0));simp only[List.append_nil] at ht;exact ht)) (fun _ _=>rfl) (by simp)
  hg (ok_one (by kernel_rfl) rfl (okWide_bool_mk underlying4 _))⟩
theorem over:Rows.FactChecksSaid :=
 OpenClaim.holds_of_wide 3 Tryz.f3 rfl rfl rfl rfl rfl rfl rfl ⟨rfl,rfl,rfl,rfl,rfl⟩ rfl rfl rfl rfl rfl (by kernel_rfl) func3 joined
  (of_decide_eq_true (by kernel_rfl)) (by unfold Func.isWrapper;first|(rw[if_pos (by decide +kernel)];kernel_rfl)|(rw[if_neg (by decide +kernel)];exact⟨rfl,rfl⟩))
  (fun os started H enc _=>lifted os started H enc)
end Go.Proofs.YthjekgfoidmagaaGreatDoor.factChecks
end
