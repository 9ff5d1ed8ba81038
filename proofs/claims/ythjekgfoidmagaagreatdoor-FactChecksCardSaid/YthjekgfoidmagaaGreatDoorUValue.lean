/- Value Empty -/
import Derived.Test.YthjekgfoidmagaaGreatDoorUOpts
set_option maxHeartbeats 16000000
set_option maxRecDepth 100000
namespace Go.Proofs.YthjekgfoidmagaaGreatDoor
open Tryz
section
open Go.RowKit Num
def aE.num(f:aE)(i:Nat):bZ:=if i=4 then⟨f.q,[]⟩ else if i=5 then⟨f.amt,[]⟩ else if i=6 then⟨f.fee,[]⟩ else if i=7 then f.price else if i=8 then f.ratio else f.share
theorem mH(f:aE)(pa oa:Option Addr)(pc oc:Nat)(i:Int)(u v:ByteArray)(w:World)(hix:∀W,(Instr.index 165 (.agg #[.string ⟨#[]⟩,.string ⟨#[]⟩,.string ⟨#[]⟩,.string ⟨#[]⟩,.string ⟨#[]⟩,.string ⟨#[]⟩,.string ⟨#[]⟩,.string ⟨#[]⟩,.string ⟨f.q.toArray⟩,.string ⟨#[]⟩,.string ⟨f.amt.toArray⟩,.string ⟨#[]⟩,.string ⟨f.fee.toArray⟩,.string ⟨#[]⟩,.string ⟨f.price.n.toArray⟩,.string ⟨f.price.d.toArray⟩,.string ⟨f.ratio.n.toArray⟩,.string ⟨f.ratio.d.toArray⟩,.string ⟨f.share.n.toArray⟩,.string ⟨f.share.d.toArray⟩,.string ⟨#[]⟩,.string ⟨#[]⟩,.string ⟨#[]⟩,.string ⟨#[]⟩,.string ⟨#[]⟩,.string ⟨#[]⟩]) (.int .i64 i)).run prog W=.ok (.agg #[.string u,.string v]) W):
  Calls prog 94 #[.agg (f.cells pa pc oa oc),.int .i64 i] w fun e w'=>e=.returned (.agg #[.string u,.string v])/\Below w.heap.size w w':=by
 have KF:=Hd (aP.new0 w (f.cells pa pc oa oc) 29);obtain⟨key,stamp,cancelled,day,kind,ins,other,cur,target,fq,amt,fee,price,ratio,share,picks,os,choice⟩:=f;unfold aE.cells at *;dsimp only at *;have KR0:=Hd (aP.new0 (w.alloc (.cells #[.string ⟨key.toArray⟩,.int .i64 stamp,.bool cancelled,.int .i64 day,.int .i64 kind,.string ⟨ins.toArray⟩,.string ⟨other.toArray⟩,.string ⟨cur.toArray⟩,.string ⟨target.toArray⟩,.string ⟨fq.toArray⟩,.string ⟨amt.toArray⟩,.string ⟨fee.toArray⟩,.string ⟨price.n.toArray⟩,.string ⟨price.d.toArray⟩,.string ⟨ratio.n.toArray⟩,.string ⟨ratio.d.toArray⟩,.string ⟨share.n.toArray⟩,.string ⟨share.d.toArray⟩,.slice pa picks.length pc,.slice oa os.length oc,.int .i64 choice] 29)) #[.string ⟨#[]⟩,.string ⟨#[]⟩] 25);have BR0:=Hd (((Br w.heap.size w).alloc (Nl _) (.cells #[.string ⟨key.toArray⟩,.int .i64 stamp,.bool cancelled,.int .i64 day,.int .i64 kind,.string ⟨ins.toArray⟩,.string ⟨other.toArray⟩,.string ⟨cur.toArray⟩,.string ⟨target.toArray⟩,.string ⟨fq.toArray⟩,.string ⟨amt.toArray⟩,.string ⟨fee.toArray⟩,.string ⟨price.n.toArray⟩,.string ⟨price.d.toArray⟩,.string ⟨ratio.n.toArray⟩,.string ⟨ratio.d.toArray⟩,.string ⟨share.n.toArray⟩,.string ⟨share.d.toArray⟩,.slice pa picks.length pc,.slice oa os.length oc,.int .i64 choice] 29)).alloc (by simp) (.cells #[.string ⟨#[]⟩,.string ⟨#[]⟩] 25));have KF2:=Hd (KF.out.below (aB _ (.cells #[.string ⟨#[]⟩,.string ⟨#[]⟩] 25)));rw[World.size_alloc] at KR0;go_enter func94,ntmps94;go_wp2_with fail;have HBc:=aD BR0.out 1;have KX:aP ((w.alloc (.cells #[.string ⟨key.toArray⟩,.int .i64 stamp,.bool cancelled,.int .i64 day,.int .i64 kind,.string ⟨ins.toArray⟩,.string ⟨other.toArray⟩,.string ⟨cur.toArray⟩,.string ⟨target.toArray⟩,.string ⟨fq.toArray⟩,.string ⟨amt.toArray⟩,.string ⟨fee.toArray⟩,.string ⟨price.n.toArray⟩,.string ⟨price.d.toArray⟩,.string ⟨ratio.n.toArray⟩,.string ⟨ratio.d.toArray⟩,.string ⟨share.n.toArray⟩,.string ⟨share.d.toArray⟩,.slice pa picks.length pc,.slice oa os.length oc,.int .i64 choice] 29)).alloc (.cells #[.string ⟨#[]⟩,.string ⟨#[]⟩] 25)).drew w.heap.size #[.string ⟨key.toArray⟩,.int .i64 stamp,.bool cancelled,.int .i64 day,.int .i64 kind,.string ⟨ins.toArray⟩,.string ⟨other.toArray⟩,.string ⟨cur.toArray⟩,.string ⟨target.toArray⟩,.string ⟨fq.toArray⟩,.string ⟨amt.toArray⟩,.string ⟨fee.toArray⟩,.string ⟨price.n.toArray⟩,.string ⟨price.d.toArray⟩,.string ⟨ratio.n.toArray⟩,.string ⟨ratio.d.toArray⟩,.string ⟨share.n.toArray⟩,.string ⟨share.d.toArray⟩,.slice pa picks.length pc,.slice oa os.length oc,.int .i64 choice] 29:=KF2.out;have KR:aP ((w.alloc (.cells #[.string ⟨key.toArray⟩,.int .i64 stamp,.bool cancelled,.int .i64 day,.int .i64 kind,.string ⟨ins.toArray⟩,.string ⟨other.toArray⟩,.string ⟨cur.toArray⟩,.string ⟨target.toArray⟩,.string ⟨fq.toArray⟩,.string ⟨amt.toArray⟩,.string ⟨fee.toArray⟩,.string ⟨price.n.toArray⟩,.string ⟨price.d.toArray⟩,.string ⟨ratio.n.toArray⟩,.string ⟨ratio.d.toArray⟩,.string ⟨share.n.toArray⟩,.string ⟨share.d.toArray⟩,.slice pa picks.length pc,.slice oa os.length oc,.int .i64 choice] 29)).alloc (.cells #[.string ⟨#[]⟩,.string ⟨#[]⟩] 25)).drew (w.heap.size+1) #[.string ⟨#[]⟩,.string ⟨#[]⟩] 25:=KR0.out;refine wp_region_held_drew (S:=fun W=>W.cell? ⟨w.heap.size,9,none⟩=some (.string ⟨fq.toArray⟩)/\W.cell? ⟨w.heap.size,10,none⟩=some (.string ⟨amt.toArray⟩)/\W.cell? ⟨w.heap.size,11,none⟩=some (.string ⟨fee.toArray⟩)/\W.cell? ⟨w.heap.size,12,none⟩=some (.string ⟨price.n.toArray⟩)/\W.cell? ⟨w.heap.size,13,none⟩=some (.string ⟨price.d.toArray⟩)/\W.cell? ⟨w.heap.size,14,none⟩=some (.string ⟨ratio.n.toArray⟩)/\W.cell? ⟨w.heap.size,15,none⟩=some (.string ⟨ratio.d.toArray⟩)/\W.cell? ⟨w.heap.size,16,none⟩=some (.string ⟨share.n.toArray⟩)/\W.cell? ⟨w.heap.size,17,none⟩=some (.string ⟨share.d.toArray⟩)) (by kernel_rfl) ?hS1 (fun hHeld=>?hR1)
 case hS1=>exact⟨KX.cell 9,KX.cell 10,KX.cell 11,KX.cell 12,KX.cell 13,KX.cell 14,KX.cell 15,KX.cell 16,KX.cell 17⟩
 refine In 0 (some 5) rfl rfl ?_;simp only[pS];refine In 1 (some 6) rfl rfl ?_;simp only[pS];refine In 3 (some 8) rfl rfl ?_;simp only[pS];refine In 4 (some 9) rfl rfl ?_;simp only[pS];refine In 6 (some 11) rfl rfl ?_;simp only[pS];refine In 7 (some 12) rfl rfl ?_;simp only[pS];refine In 9 (some 14) rfl rfl ?_;simp only[pS];refine In 10 (some 15) rfl rfl ?_;simp only[pS];refine In 11 (some 16) rfl rfl ?_;simp only[pS];refine In 12 (some 17) rfl rfl ?_;simp only[pS];refine In 13 (some 18) rfl rfl ?_;simp only[pS];refine In 14 (some 19) rfl rfl ?_;simp only[pS];refine In 16 (some 21) rfl rfl ?_;simp only[pS];refine rd1 2 rfl (fun K hK=>?_);go_simp;go_at_call 148;refine(lF fq _).mono ?_;rintro e wn ⟨rfl,hbn⟩;replace HBc:=aA HBc hbn;replace KX:=KX.below hbn;replace KR:=KR.below hbn;clear hbn;go_wp2_with fail;refine hK.out _ _ ?hS15 (fun hHeld=>?hR15)
 case hS15=>exact⟨KX.cell 9,KX.cell 10,KX.cell 11,KX.cell 12,KX.cell 13,KX.cell 14,KX.cell 15,KX.cell 16,KX.cell 17⟩
 try simp only[pS]
 refine rd1 5 rfl (fun K hK=>?_);go_simp;go_at_call 148;refine(lF amt _).mono ?_;rintro e wn ⟨rfl,hbn⟩;replace HBc:=aA HBc hbn;replace KX:=KX.below hbn;replace KR:=KR.below hbn;clear hbn;go_wp2_with fail;refine hK.out _ _ ?hS16 (fun hHeld=>?hR16)
 case hS16=>exact⟨KX.cell 9,KX.cell 10,KX.cell 11,KX.cell 12,KX.cell 13,KX.cell 14,KX.cell 15,KX.cell 16,KX.cell 17⟩
 try simp only[pS]
 refine rd1 8 rfl (fun K hK=>?_);go_simp;go_at_call 148;refine(lF fee _).mono ?_;rintro e wn ⟨rfl,hbn⟩;replace HBc:=aA HBc hbn;replace KX:=KX.below hbn;replace KR:=KR.below hbn;clear hbn;go_wp2_with fail;refine hK.out _ _ ?hS17 (fun hHeld=>?hR17)
 case hS17=>exact⟨KX.cell 9,KX.cell 10,KX.cell 11,KX.cell 12,KX.cell 13,KX.cell 14,KX.cell 15,KX.cell 16,KX.cell 17⟩
 try simp only[pS]
 refine In 15 (some 20) rfl rfl ?_;simp only[pS];refine In 17 (some 22) rfl rfl ?_;simp only[pS];refine rd1 18 rfl (fun K hK=>?_);have r0:=KR.cell 0;have r1:=KR.cell 1;have g0:=aR KR.2 0;have g1:=aR KR.2 1;go_simp;go_wp2_with fail;refine hK.out _ _ ?hS20 (fun hHeld=>?hR20)
 case hS20=>exact⟨(dM _ _ (by omega)).trans (KX.cell 9),(dM _ _ (by omega)).trans (KX.cell 10),(dM _ _ (by omega)).trans (KX.cell 11),(dM _ _ (by omega)).trans (KX.cell 12),(dM _ _ (by omega)).trans (KX.cell 13),(dM _ _ (by omega)).trans (KX.cell 14),(dM _ _ (by omega)).trans (KX.cell 15),(dM _ _ (by omega)).trans (KX.cell 16),(dM _ _ (by omega)).trans (KX.cell 17)⟩
 try simp only[pS]
 refine wpAnyH_done (by kernel_rfl) ?_ _;go_wp2;exact bodyPost_ret (v:=.agg #[.string u,.string v]) (by simp[results,results94,go_sem,r0,r1]) rfl ⟨rfl,(HBc.setCell (p:=⟨w.heap.size+1,0,none⟩) (by show _<=w.heap.size+1;omega) _).setCell (p:=⟨w.heap.size+1,1,none⟩) (by show _<=w.heap.size+1;omega) _⟩
theorem Ni(f:aE)(pa oa:Option Addr)(pc oc:Nat)(w:World):
  Calls prog 94 #[.agg (f.cells pa pc oa oc),.int .i64 4] w fun e w'=>e=.returned (f.num 4).agg/\Below w.heap.size w w' :=
 mH f pa oa pc oc 4 ⟨f.q.toArray⟩ ⟨#[]⟩ w (fun W=>by kernel_rfl)
theorem Nh(f:aE)(pa oa:Option Addr)(pc oc:Nat)(w:World):
  Calls prog 94 #[.agg (f.cells pa pc oa oc),.int .i64 5] w fun e w'=>e=.returned (f.num 5).agg/\Below w.heap.size w w' :=
 mH f pa oa pc oc 5 ⟨f.amt.toArray⟩ ⟨#[]⟩ w (fun W=>by kernel_rfl)
theorem Ng(f:aE)(pa oa:Option Addr)(pc oc:Nat)(w:World):
  Calls prog 94 #[.agg (f.cells pa pc oa oc),.int .i64 6] w fun e w'=>e=.returned (f.num 6).agg/\Below w.heap.size w w' :=
 mH f pa oa pc oc 6 ⟨f.fee.toArray⟩ ⟨#[]⟩ w (fun W=>by kernel_rfl)
theorem Nf(f:aE)(pa oa:Option Addr)(pc oc:Nat)(w:World):
  Calls prog 94 #[.agg (f.cells pa pc oa oc),.int .i64 7] w fun e w'=>e=.returned (f.num 7).agg/\Below w.heap.size w w' :=
 mH f pa oa pc oc 7 ⟨f.price.n.toArray⟩ ⟨f.price.d.toArray⟩ w (fun W=>by kernel_rfl)
theorem Nd(f:aE)(pa oa:Option Addr)(pc oc:Nat)(w:World):
  Calls prog 94 #[.agg (f.cells pa pc oa oc),.int .i64 8] w fun e w'=>e=.returned (f.num 8).agg/\Below w.heap.size w w' :=
 mH f pa oa pc oc 8 ⟨f.ratio.n.toArray⟩ ⟨f.ratio.d.toArray⟩ w (fun W=>by kernel_rfl)
theorem Nc(f:aE)(pa oa:Option Addr)(pc oc:Nat)(w:World):
  Calls prog 94 #[.agg (f.cells pa pc oa oc),.int .i64 9] w fun e w'=>e=.returned (f.num 9).agg/\Below w.heap.size w w' :=
 mH f pa oa pc oc 9 ⟨f.share.n.toArray⟩ ⟨f.share.d.toArray⟩ w (fun W=>by kernel_rfl)
end
section
open Go.RowKit Num
theorem Lq:(prog.info? 29).map (·.size)=some 21:=by kernel_rfl
theorem aY(f:aE)(pa oa:Option Addr)(pc oc:Nat):(prog.info? 29).map (·.size)=some (f.cells pa pc oa oc).size:=Lq
def aE.zero(f:aE)(i:Nat):Bool :=
 if i=0 then f.ins.isEmpty else if i=1 then f.other.isEmpty else if i=2 then f.cur.isEmpty else if i=3 then f.target.isEmpty else if i=10 then decide (f.picks.length=0) else if i=11 then decide (f.options.length=0) else if i=12 then decide (f.choice=0) else(f.num i).none
theorem bBv(f:aE)(i:Nat)(hi:i=4∨i=5∨i=6∨i=7∨i=8∨i=9)(pa oa:Option Addr)(pc oc:Nat)(w:World):
  Calls prog 94 #[.agg (f.cells pa pc oa oc),.int .i64 (i:Int)] w fun e w'=>e=.returned (f.num i).agg/\Below w.heap.size w w':=by
 rcases hi with rfl|rfl|rfl|rfl|rfl|rfl
 all_goals exact mH f pa oa pc oc _ _ _ w (fun W=>by kernel_rfl)
theorem bBz(f:aE)(i:Nat)(hi:i=4∨i=5∨i=6∨i=7∨i=8∨i=9)(pa oa:Option Addr)(pc oc:Nat)(w:World):
  Calls prog 36 #[.agg (f.cells pa pc oa oc),.int .i64 (i:Int)] w fun e w'=>e=.returned (.bool (f.zero i))/\Below w.heap.size w w':=by
 have HV:=Hd (fun W=>bBv f i hi pa oa pc oc W);have hz:f.zero i=(f.num i).none:=by rcases hi with rfl|rfl|rfl|rfl|rfl|rfl <;> rfl
 rw[hz];clear hz;unfold bZ.none;unfold bZ.agg at HV;generalize f.num i=x at *;obtain⟨n,d⟩:=x;dsimp only at *;have HFB:=Hd (aP.new0 w (f.cells pa pc oa oc) 29);have hsz:Hid ((prog.info? 29).map (·.size)=some (f.cells pa pc oa oc).size):=aY f pa oa pc oc;generalize f.cells pa pc oa oc=cs at *;cases n <;> cases d
 all_goals
  rcases hi with rfl|rfl|rfl|rfl|rfl|rfl
  all_goals
   go_enter func36,ntmps36;go_wp2_with (refine wpList_load_row rfl 29 _ rfl w.heap.size rfl 29 cs (0,0) _ HFB.out.2 underlying29 rfl hsz.out ?_);refine(HV.out _).mono ?_;rintro e w1 ⟨rfl,hb1⟩;go_wp2;go_ret;exact⟨rfl,aA (aB w _) hb1⟩
theorem bAy(n:Nat):decide (n=0)=((n:Int)==0):=by rw[Bool.eq_iff_iff];simp
theorem bBn(n:Int):decide (n=0)=(n==0):=by rw[Bool.eq_iff_iff];simp
theorem Rd(f:aE)(i:Nat)(hi:i<13)(pa oa:Option Addr)(pc oc:Nat)(w:World):
  Calls prog 36 #[.agg (f.cells pa pc oa oc),.int .i64 (i:Int)] w fun e w'=>e=.returned (.bool (f.zero i))/\Below w.heap.size w w':=by
 by_cases hn:i=4∨i=5∨i=6∨i=7∨i=8∨i=9
 ·exact bBz f i hn pa oa pc oc w
 ·have hm:i=0∨i=1∨i=2∨i=3∨i=10∨i=11∨i=12:=by omega
  clear hn hi;unfold aE.zero aE.cells;obtain⟨key,stamp,cancelled,day,kind,ins,other,cur,target,fq,amt,fee,price,ratio,share,picks,os,choice⟩:=f;dsimp only;rw[bAy,bAy,bBn];rcases hm with rfl|rfl|rfl|rfl|rfl|rfl|rfl
  all_goals simp only[Nat.reduceEqDiff,if_true,if_false]
  cases h:ins.isEmpty
  rotate_left 2
  cases h:other.isEmpty
  rotate_left 2
  cases h:cur.isEmpty
  rotate_left 2
  cases h:target.isEmpty
  rotate_left 2
  cases h:((picks.length:Int)==0)
  rotate_left 2
  cases h:((os.length:Int)==0)
  rotate_left 2
  cases h:(choice==0)
  all_goals
   go_enter func36,ntmps36;go_wp2;go_ret;exact⟨by first|rfl|simp[h],aB w _⟩
end
end Go.Proofs.YthjekgfoidmagaaGreatDoor
