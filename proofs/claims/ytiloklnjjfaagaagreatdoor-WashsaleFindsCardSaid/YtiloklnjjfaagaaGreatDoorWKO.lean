/- WashsaleFindsOver -/
import Derived.Test.YtiloklnjjfaagaaGreatDoorWK
import Derived.Test.YtiloklnjjfaagaaGreatDoorWKJ
set_option maxHeartbeats 16000000
set_option maxRecDepth 100000
namespace Go.Proofs.YtiloklnjjfaagaaGreatDoor.washsaleFinds
open Go.RowKit Num Dt Go.ChangeShapes Go.WideShapes Go.ChangeAt
theorem own:ownKnob Tryz.prog.godebug=none:=by kernel_rfl
theorem lifted(os:Os)(started:os.Started)(H:Type)(enc:TypeId×Value->H):
  ReturnsInHanded {} Tryz.checked os 8 .any (fun w args=>(Rows.washsaleFindsSpec.pre enc Tryz.prog Tryz.f8 Rows.washsaleFindsRow.domain false w args/\laidMetH Tryz.prog Rows.washsaleFindsRow.laid w)/\sizedMet enc Tryz.prog Tryz.f8 (OpenSpec.ofChange Rows.washsaleFindsSpec) false w args)
   (Rows.washsaleFindsSpec.post enc Tryz.prog Tryz.f8 false true false false):=by
 refine oZ (C:=Tryz.checked) (X:=fun w _=>laidMetH Tryz.prog Rows.washsaleFindsRow.laid w) (fun _ _ _ hh h=>h.of_heap hh) own started (by kernel_rfl) Tryz.func8
  (ChangeSpec.witness_shaped (enc:=enc) (C:=Tryz.checked) (os:=os) (X:=fun w _=>laidMetH Tryz.prog Rows.washsaleFindsRow.laid w) false (World.laidAll Tryz.prog os Rows.washsaleFindsRow.laid) #[.slice none 0 0,.slice none 0 0,.string ⟨#[]⟩,.int .i64 0,.int .i64 0] 8 (World.laidAll_os _ _ _)
   (World.shaped_of_ZipB (by kernel_rfl) (by kernel_rfl)) (by kernel_rfl) (by kernel_rfl) (by kernel_rfl)
   (by rw[MakeChecks.laidMetH_plain _ _ _ (by kernel_rfl)];exact laidMet_laidAll _ (by kernel_rfl) (by kernel_rfl))) ?_
 intro W base args ds gs before hval0 hW hsh hL;have hval:∀(j:Nat) t v,Tryz.f8.params[j]?=some t->args[j]?=some v->Value.okWide Tryz.prog W .any base t v:=hval0
 have hW':=hW;obtain⟨p,q,hA0,hV,rfl,hfz,hnd⟩:=hW;have hA:DataW.TrodAll enc Tryz.prog W 0 (fun _=>true) true Tryz.f8.params.toList args.toList ds p:=hA0;rw[Tryz.params8] at hA hval;obtain⟨v0,vs0,d0,ds0,p0,q0,hargs,rfl,rfl,h0,r0⟩:=trodAll_cons hA;obtain⟨v1,vs1,d1,ds1,p1,q1,rfl,rfl,rfl,h1,r1⟩:=trodAll_cons r0;obtain⟨v2,vs2,d2,ds2,p2,q2,rfl,rfl,rfl,h2,r2⟩:=trodAll_cons r1;obtain⟨v3,vs3,d3,ds3,p3,q3,rfl,rfl,rfl,h3,r3⟩:=trodAll_cons r2;obtain⟨v4,vs4,d4,ds4,p4,q4,rfl,rfl,rfl,h4,r4⟩:=trodAll_cons r3;obtain⟨rfl,rfl,rfl⟩:=trodAll_nil r4;obtain rfl:args=#[v0,v1,v2,v3,v4]:=by cases args;simp_all
 obtain⟨rfl,rfl⟩:=trodVars_none hV;have hlt:=fun p hp=>hW'.lt p hp
 have hE:iE W:=Lt hsh (List.mem_of_getElem? (show Rows.washsaleFindsRow.laid[2]?=some _ from rfl)) (List.mem_of_getElem? (show Rows.washsaleFindsRow.laid[5]?=some _ from rfl)) (List.mem_of_getElem? (show Rows.washsaleFindsRow.laid[4]?=some _ from rfl)) ((MakeChecks.laidMetH_plain _ _ _ (by kernel_rfl)).mp hL);obtain⟨a0,c0,ls0,rfl,hc0,hm0,hls0,hfit0⟩:=dCj (hval 0 22 v0 rfl rfl) h0;obtain⟨a1,c1,gs1,rfl,hc1,hm1,hls1,hfit1⟩:=aOi (hval 1 23 v1 rfl rfl) h1;obtain⟨s2,rfl,rfl,rfl,wf2⟩:=Go.ChangeMaps.open_string Tryz.underlying9 (hval 2 9 v2 rfl rfl) h2;obtain⟨x3,rfl,rfl,rfl,wf3⟩:=open_int Tryz.underlying24 (hval 3 24 v3 rfl rfl) h3;obtain⟨x4,rfl,rfl,rfl,wf4⟩:=open_int Tryz.underlying3 (hval 4 3 v4 rfl rfl) h4;simp only[List.append_nil] at hW' hlt;refine(dIo ls0 gs1 s2.data.toList x3 x4 a0 a1 c0 c1 W hE (by unfold maxLen at hm0;omega) hc0 hls0 hfit0 (by unfold maxLen at hm1;omega) hc1 hls1 hfit1 wf2).mono fun e W' ⟨he,hg⟩=>?_
 subst he;exact⟨_,rfl,sE (pa:=p0++p1) (pv:=[]) hW' (fun _ _ _=>(trodAll_cons_mk (shut_bool Tryz.underlying4 _) trodAll_mk0))
  (fun sp hsp=>(by have ht:=(trodAll_cons_mk (WideElems.Trod_stays (by kernel_rfl) (by kernel_rfl) (of_decide_eq_true (by kernel_rfl)) h0 (fun p hp=>hg.same (hlt p (by simp[hp]))) (fun p hp=>hsp p (by simp[hp]))) (trodAll_cons_mk (WideElems.Trod_stays (by kernel_rfl) (by kernel_rfl) (of_decide_eq_true (by kernel_rfl)) h1 (fun p hp=>hg.same (hlt p (by simp[hp]))) (fun p hp=>hsp p (by simp[hp]))) (trodAll_cons_mk (Go.ChangeMaps.shut_string Tryz.underlying9 wf2) (trodAll_cons_mk (shut_int Tryz.underlying24 wf3) (trodAll_cons_mk (shut_int Tryz.underlying3 wf4) trodAll_mk0)))));simp only[List.append_nil] at ht;exact ht)) (fun _ _=>rfl) (by simp)
  hg (ok_one (by kernel_rfl) rfl (okWide_bool_mk Tryz.underlying4 _))⟩
theorem over:Rows.WashsaleFindsSaid :=
 OpenClaim.holds_of_wide 8 Tryz.f8 rfl rfl rfl rfl rfl rfl rfl ⟨rfl,rfl,rfl,rfl,rfl⟩ rfl rfl rfl rfl rfl (by kernel_rfl) Tryz.func8 joined
  (of_decide_eq_true (by kernel_rfl)) (by unfold Func.isWrapper;first|(rw[if_pos (by decide +kernel)];kernel_rfl)|(rw[if_neg (by decide +kernel)];exact⟨rfl,rfl⟩))
  (fun os started H enc _=>lifted os started H enc)
end Go.Proofs.YtiloklnjjfaagaaGreatDoor.washsaleFinds
