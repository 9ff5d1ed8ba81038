/- Value -/
import Derived.Test.YtejkibnaidiklaaGreatDoorJMem
import Derived.Test.YtejkibnaidiklaaGreatDoorJOpts
set_option maxHeartbeats 16000000
set_option maxRecDepth 100000
namespace Go.Proofs.YtejkibnaidiklaaGreatDoor
open Go.RowKit Num
def aE.num(f:aE)(i:Nat):bZ:=if i=4 then⟨f.q,[]⟩ else if i=5 then⟨f.amt,[]⟩ else if i=6 then⟨f.fee,[]⟩ else if i=7 then f.price else if i=8 then f.ratio else f.share
theorem mH(f:aE)(pa oa:Option Addr)(pc oc:Nat)(i:Int)(u v:ByteArray)(w:World)(hix:∀W,(Instr.index 256 (.agg #[.string ⟨#[]⟩,.string ⟨#[]⟩,.string ⟨#[]⟩,.string ⟨#[]⟩,.string ⟨#[]⟩,.string ⟨#[]⟩,.string ⟨#[]⟩,.string ⟨#[]⟩,.string ⟨f.q.toArray⟩,.string ⟨#[]⟩,.string ⟨f.amt.toArray⟩,.string ⟨#[]⟩,.string ⟨f.fee.toArray⟩,.string ⟨#[]⟩,.string ⟨f.price.n.toArray⟩,.string ⟨f.price.d.toArray⟩,.string ⟨f.ratio.n.toArray⟩,.string ⟨f.ratio.d.toArray⟩,.string ⟨f.share.n.toArray⟩,.string ⟨f.share.d.toArray⟩,.string ⟨#[]⟩,.string ⟨#[]⟩,.string ⟨#[]⟩,.string ⟨#[]⟩,.string ⟨#[]⟩,.string ⟨#[]⟩]) (.int .i64 i)).run Tryz.prog W=.ok (.agg #[.string u,.string v]) W):
  Calls Tryz.prog 186 #[.agg (f.cells pa pc oa oc),.int .i64 i] w fun e w'=>e=.returned (.agg #[.string u,.string v])∧Below w.heap.size w w':=by
 have KF:=Hd (aP.new0 w (f.cells pa pc oa oc) 59);obtain⟨key,stamp,cancelled,day,kind,ins,other,cur,target,fq,amt,fee,price,ratio,share,picks,os,choice⟩:=f;unfold aE.cells at *;dsimp only at *;have KR0:=Hd (aP.new0 (w.alloc (.cells #[.string ⟨key.toArray⟩,.int .i64 stamp,.bool cancelled,.int .i64 day,.int .i64 kind,.string ⟨ins.toArray⟩,.string ⟨other.toArray⟩,.string ⟨cur.toArray⟩,.string ⟨target.toArray⟩,.string ⟨fq.toArray⟩,.string ⟨amt.toArray⟩,.string ⟨fee.toArray⟩,.string ⟨price.n.toArray⟩,.string ⟨price.d.toArray⟩,.string ⟨ratio.n.toArray⟩,.string ⟨ratio.d.toArray⟩,.string ⟨share.n.toArray⟩,.string ⟨share.d.toArray⟩,.slice pa picks.length pc,.slice oa os.length oc,.int .i64 choice] 59)) #[.string ⟨#[]⟩,.string ⟨#[]⟩] 28);have BR0:=Hd (((Br w.heap.size w).alloc (Nl _) (.cells #[.string ⟨key.toArray⟩,.int .i64 stamp,.bool cancelled,.int .i64 day,.int .i64 kind,.string ⟨ins.toArray⟩,.string ⟨other.toArray⟩,.string ⟨cur.toArray⟩,.string ⟨target.toArray⟩,.string ⟨fq.toArray⟩,.string ⟨amt.toArray⟩,.string ⟨fee.toArray⟩,.string ⟨price.n.toArray⟩,.string ⟨price.d.toArray⟩,.string ⟨ratio.n.toArray⟩,.string ⟨ratio.d.toArray⟩,.string ⟨share.n.toArray⟩,.string ⟨share.d.toArray⟩,.slice pa picks.length pc,.slice oa os.length oc,.int .i64 choice] 59)).alloc (by simp) (.cells #[.string ⟨#[]⟩,.string ⟨#[]⟩] 28));have KF2:=Hd (KF.out.below (aB _ (.cells #[.string ⟨#[]⟩,.string ⟨#[]⟩] 28)));rw[World.size_alloc] at KR0;go_enter Tryz.func186,Tryz.ntmps186;go_wp2_with fail;have HBc:=aD BR0.out 1;have KX:aP ((w.alloc (.cells #[.string ⟨key.toArray⟩,.int .i64 stamp,.bool cancelled,.int .i64 day,.int .i64 kind,.string ⟨ins.toArray⟩,.string ⟨other.toArray⟩,.string ⟨cur.toArray⟩,.string ⟨target.toArray⟩,.string ⟨fq.toArray⟩,.string ⟨amt.toArray⟩,.string ⟨fee.toArray⟩,.string ⟨price.n.toArray⟩,.string ⟨price.d.toArray⟩,.string ⟨ratio.n.toArray⟩,.string ⟨ratio.d.toArray⟩,.string ⟨share.n.toArray⟩,.string ⟨share.d.toArray⟩,.slice pa picks.length pc,.slice oa os.length oc,.int .i64 choice] 59)).alloc (.cells #[.string ⟨#[]⟩,.string ⟨#[]⟩] 28)).drew w.heap.size #[.string ⟨key.toArray⟩,.int .i64 stamp,.bool cancelled,.int .i64 day,.int .i64 kind,.string ⟨ins.toArray⟩,.string ⟨other.toArray⟩,.string ⟨cur.toArray⟩,.string ⟨target.toArray⟩,.string ⟨fq.toArray⟩,.string ⟨amt.toArray⟩,.string ⟨fee.toArray⟩,.string ⟨price.n.toArray⟩,.string ⟨price.d.toArray⟩,.string ⟨ratio.n.toArray⟩,.string ⟨ratio.d.toArray⟩,.string ⟨share.n.toArray⟩,.string ⟨share.d.toArray⟩,.slice pa picks.length pc,.slice oa os.length oc,.int .i64 choice] 59:=KF2.out;have KR:aP ((w.alloc (.cells #[.string ⟨key.toArray⟩,.int .i64 stamp,.bool cancelled,.int .i64 day,.int .i64 kind,.string ⟨ins.toArray⟩,.string ⟨other.toArray⟩,.string ⟨cur.toArray⟩,.string ⟨target.toArray⟩,.string ⟨fq.toArray⟩,.string ⟨amt.toArray⟩,.string ⟨fee.toArray⟩,.string ⟨price.n.toArray⟩,.string ⟨price.d.toArray⟩,.string ⟨ratio.n.toArray⟩,.string ⟨ratio.d.toArray⟩,.string ⟨share.n.toArray⟩,.string ⟨share.d.toArray⟩,.slice pa picks.length pc,.slice oa os.length oc,.int .i64 choice] 59)).alloc (.cells #[.string ⟨#[]⟩,.string ⟨#[]⟩] 28)).drew (w.heap.size+1) #[.string ⟨#[]⟩,.string ⟨#[]⟩] 28:=KR0.out;refine wp_region_held_drew (S:=fun W=>W.cell? ⟨w.heap.size,9,none⟩=some (.string ⟨fq.toArray⟩)∧W.cell? ⟨w.heap.size,10,none⟩=some (.string ⟨amt.toArray⟩)∧W.cell? ⟨w.heap.size,11,none⟩=some (.string ⟨fee.toArray⟩)∧W.cell? ⟨w.heap.size,12,none⟩=some (.string ⟨price.n.toArray⟩)∧W.cell? ⟨w.heap.size,13,none⟩=some (.string ⟨price.d.toArray⟩)∧W.cell? ⟨w.heap.size,14,none⟩=some (.string ⟨ratio.n.toArray⟩)∧W.cell? ⟨w.heap.size,15,none⟩=some (.string ⟨ratio.d.toArray⟩)∧W.cell? ⟨w.heap.size,16,none⟩=some (.string ⟨share.n.toArray⟩)∧W.cell? ⟨w.heap.size,17,none⟩=some (.string ⟨share.d.toArray⟩)) (by kernel_rfl) ?hS1 (fun hHeld=>?hR1)
 case hS1=>exact⟨KX.cell 9,KX.cell 10,KX.cell 11,KX.cell 12,KX.cell 13,KX.cell 14,KX.cell 15,KX.cell 16,KX.cell 17⟩
 refine tk 0 (some 5) (?v2) rfl rfl ?hy2 ?hR2
 case hy2=>(intro w hSw;(try dsimp only at hSw);go_simp;try rfl)
 simp only[pS];refine tk 1 (some 6) (?v3) rfl rfl ?hy3 ?hR3
 case hy3=>(intro w hSw;(try dsimp only at hSw);go_simp;try rfl)
 simp only[pS];refine tk 3 (some 8) (?v4) rfl rfl ?hy4 ?hR4
 case hy4=>(intro w hSw;(try dsimp only at hSw);go_simp;try rfl)
 simp only[pS];refine tk 4 (some 9) (?v5) rfl rfl ?hy5 ?hR5
 case hy5=>(intro w hSw;(try dsimp only at hSw);go_simp;try rfl)
 simp only[pS];refine tk 6 (some 11) (?v6) rfl rfl ?hy6 ?hR6
 case hy6=>(intro w hSw;(try dsimp only at hSw);go_simp;try rfl)
 simp only[pS];refine tk 7 (some 12) (?v7) rfl rfl ?hy7 ?hR7
 case hy7=>(intro w hSw;(try dsimp only at hSw);go_simp;try rfl)
 simp only[pS];refine tk 9 (some 14) (?v8) rfl rfl ?hy8 ?hR8
 case hy8=>(intro w hSw;(try dsimp only at hSw);go_simp;try rfl)
 simp only[pS];refine tk 10 (some 15) (?v9) rfl rfl ?hy9 ?hR9
 case hy9=>(intro w hSw;(try dsimp only at hSw);go_simp;try rfl)
 simp only[pS];refine tk 11 (some 16) (?v10) rfl rfl ?hy10 ?hR10
 case hy10=>(intro w hSw;(try dsimp only at hSw);go_simp;try rfl)
 simp only[pS];refine tk 12 (some 17) (?v11) rfl rfl ?hy11 ?hR11
 case hy11=>(intro w hSw;(try dsimp only at hSw);go_simp;try rfl)
 simp only[pS];refine tk 13 (some 18) (?v12) rfl rfl ?hy12 ?hR12
 case hy12=>(intro w hSw;(try dsimp only at hSw);go_simp;try rfl)
 simp only[pS];refine tk 14 (some 19) (?v13) rfl rfl ?hy13 ?hR13
 case hy13=>(intro w hSw;(try dsimp only at hSw);go_simp;try rfl)
 simp only[pS];refine tk 16 (some 21) (?v14) rfl rfl ?hy14 ?hR14
 case hy14=>(intro w hSw;(try dsimp only at hSw);go_simp;try rfl)
 simp only[pS];refine wpAnyH_ready (rs:=[2]) (by kernel_rfl) (by simp) ?_;refine AllReadyH.cons (o:=_) rfl (fun K hK=>?hC15) AllReadyH.nil;rw[if_pos (by rfl)];go_simp;go_at_call 239;refine(lF fq _).mono ?_;rintro e wn ⟨rfl,hbn⟩;replace HBc:=aA HBc hbn;replace KX:=KX.below hbn;replace KR:=KR.below hbn;clear hbn;go_wp2_with fail;refine hK.out _ _ ?hS15 (fun hHeld=>?hR15)
 case hS15=>exact⟨KX.cell 9,KX.cell 10,KX.cell 11,KX.cell 12,KX.cell 13,KX.cell 14,KX.cell 15,KX.cell 16,KX.cell 17⟩
 try simp only[pS]
 refine wpAnyH_ready (rs:=[5]) (by kernel_rfl) (by simp) ?_;refine AllReadyH.cons (o:=_) rfl (fun K hK=>?hC16) AllReadyH.nil;rw[if_pos (by rfl)];go_simp;go_at_call 239;refine(lF amt _).mono ?_;rintro e wn ⟨rfl,hbn⟩;replace HBc:=aA HBc hbn;replace KX:=KX.below hbn;replace KR:=KR.below hbn;clear hbn;go_wp2_with fail;refine hK.out _ _ ?hS16 (fun hHeld=>?hR16)
 case hS16=>exact⟨KX.cell 9,KX.cell 10,KX.cell 11,KX.cell 12,KX.cell 13,KX.cell 14,KX.cell 15,KX.cell 16,KX.cell 17⟩
 try simp only[pS]
 refine wpAnyH_ready (rs:=[8]) (by kernel_rfl) (by simp) ?_;refine AllReadyH.cons (o:=_) rfl (fun K hK=>?hC17) AllReadyH.nil;rw[if_pos (by rfl)];go_simp;go_at_call 239;refine(lF fee _).mono ?_;rintro e wn ⟨rfl,hbn⟩;replace HBc:=aA HBc hbn;replace KX:=KX.below hbn;replace KR:=KR.below hbn;clear hbn;go_wp2_with fail;refine hK.out _ _ ?hS17 (fun hHeld=>?hR17)
 case hS17=>exact⟨KX.cell 9,KX.cell 10,KX.cell 11,KX.cell 12,KX.cell 13,KX.cell 14,KX.cell 15,KX.cell 16,KX.cell 17⟩
 try simp only[pS]
 refine tk 15 (some 20) (?v18) rfl rfl ?hy18 ?hR18
 case hy18=>(intro w hSw;(try dsimp only at hSw);go_simp;try rfl)
 simp only[pS];refine tk 17 (some 22) (?v19) rfl rfl ?hy19 ?hR19
 case hy19=>(intro w hSw;(try dsimp only at hSw);go_simp;try rfl)
 simp only[pS];refine wpAnyH_ready (rs:=[18]) (by kernel_rfl) (by simp) ?_;refine AllReadyH.cons (o:=_) rfl (fun K hK=>?hC20) AllReadyH.nil;rw[if_pos (by rfl)];have r0:=KR.cell 0;have r1:=KR.cell 1;have g0:=aR KR.2 0;have g1:=aR KR.2 1;go_simp;go_wp2_with fail;refine hK.out _ _ ?hS20 (fun hHeld=>?hR20)
 case hS20=>exact⟨(dM _ _ (by omega)).trans (KX.cell 9),(dM _ _ (by omega)).trans (KX.cell 10),(dM _ _ (by omega)).trans (KX.cell 11),(dM _ _ (by omega)).trans (KX.cell 12),(dM _ _ (by omega)).trans (KX.cell 13),(dM _ _ (by omega)).trans (KX.cell 14),(dM _ _ (by omega)).trans (KX.cell 15),(dM _ _ (by omega)).trans (KX.cell 16),(dM _ _ (by omega)).trans (KX.cell 17)⟩
 try simp only[pS]
 refine wpAnyH_done (by kernel_rfl) ?_ _;go_wp2;exact bodyPost_ret (v:=.agg #[.string u,.string v]) (by simp[results,Tryz.results186,go_sem,r0,r1]) rfl ⟨rfl,(HBc.setCell (p:=⟨w.heap.size+1,0,none⟩) (by show _≤w.heap.size+1;omega) _).setCell (p:=⟨w.heap.size+1,1,none⟩) (by show _≤w.heap.size+1;omega) _⟩
theorem Ni(f:aE)(pa oa:Option Addr)(pc oc:Nat)(w:World):
  Calls Tryz.prog 186 #[.agg (f.cells pa pc oa oc),.int .i64 4] w fun e w'=>e=.returned (f.num 4).agg∧Below w.heap.size w w' :=
 mH f pa oa pc oc 4 ⟨f.q.toArray⟩ ⟨#[]⟩ w (fun W=>by kernel_rfl)
theorem Nh(f:aE)(pa oa:Option Addr)(pc oc:Nat)(w:World):
  Calls Tryz.prog 186 #[.agg (f.cells pa pc oa oc),.int .i64 5] w fun e w'=>e=.returned (f.num 5).agg∧Below w.heap.size w w' :=
 mH f pa oa pc oc 5 ⟨f.amt.toArray⟩ ⟨#[]⟩ w (fun W=>by kernel_rfl)
theorem Ng(f:aE)(pa oa:Option Addr)(pc oc:Nat)(w:World):
  Calls Tryz.prog 186 #[.agg (f.cells pa pc oa oc),.int .i64 6] w fun e w'=>e=.returned (f.num 6).agg∧Below w.heap.size w w' :=
 mH f pa oa pc oc 6 ⟨f.fee.toArray⟩ ⟨#[]⟩ w (fun W=>by kernel_rfl)
theorem Nf(f:aE)(pa oa:Option Addr)(pc oc:Nat)(w:World):
  Calls Tryz.prog 186 #[.agg (f.cells pa pc oa oc),.int .i64 7] w fun e w'=>e=.returned (f.num 7).agg∧Below w.heap.size w w' :=
 mH f pa oa pc oc 7 ⟨f.price.n.toArray⟩ ⟨f.price.d.toArray⟩ w (fun W=>by kernel_rfl)
theorem Nd(f:aE)(pa oa:Option Addr)(pc oc:Nat)(w:World):
  Calls Tryz.prog 186 #[.agg (f.cells pa pc oa oc),.int .i64 8] w fun e w'=>e=.returned (f.num 8).agg∧Below w.heap.size w w' :=
 mH f pa oa pc oc 8 ⟨f.ratio.n.toArray⟩ ⟨f.ratio.d.toArray⟩ w (fun W=>by kernel_rfl)
theorem Nc(f:aE)(pa oa:Option Addr)(pc oc:Nat)(w:World):
  Calls Tryz.prog 186 #[.agg (f.cells pa pc oa oc),.int .i64 9] w fun e w'=>e=.returned (f.num 9).agg∧Below w.heap.size w w' :=
 mH f pa oa pc oc 9 ⟨f.share.n.toArray⟩ ⟨f.share.d.toArray⟩ w (fun W=>by kernel_rfl)
end Go.Proofs.YtejkibnaidiklaaGreatDoor
