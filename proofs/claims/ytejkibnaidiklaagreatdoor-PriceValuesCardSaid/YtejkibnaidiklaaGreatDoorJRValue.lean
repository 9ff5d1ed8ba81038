/- RQuo DivMore ValueP RoundG RValueA RValueB RValueC RValue -/
import Derived.Test.YtejkibnaidiklaaGreatDoorJMem
import Derived.Test.YtejkibnaidiklaaGreatDoorJRLong
import Derived.Test.YtejkibnaidiklaaGreatDoorJPriceB
import Derived.Test.YtejkibnaidiklaaGreatDoorJDiv
set_option maxHeartbeats 16000000
set_option maxRecDepth 100000
namespace Go.Proofs.YtejkibnaidiklaaGreatDoor
section
open Go Go.RowKit Num
theorem aYv{n d n' d':List UInt8}(h:0<lU d)(h':0<lU d'):nE n d n' d'=bG (val n*lU d') (val n'*lU d):=by
 have r1:∀n d:List UInt8,0<lU d→val (gL n d)=val n:=fun n d h=>by rw[mP,if_neg];unfold lU at h;split at h <;> omega
 have r2:∀d:List UInt8,0<lU d→val (gW d)=lU d:=fun d h=>by rw[qD,if_neg (by omega)]
 have r1:∀n d:List UInt8,0<lU d→val (gL n d)=val n:=fun n d h=>by rw[mP,if_neg];unfold lU at h;split at h <;> omega
 have r2:∀d:List UInt8,0<lU d→val (gW d)=lU d:=fun d h=>by rw[qD,if_neg (by omega)]
 have r1:∀n d:List UInt8,0<lU d→val (gL n d)=val n:=fun n d h=>by rw[mP,if_neg];unfold lU at h;split at h <;> omega
 have r2:∀d:List UInt8,0<lU d→val (gW d)=lU d:=fun d h=>by rw[qD,if_neg (by omega)]
 have r1:∀n d:List UInt8,0<lU d→val (gL n d)=val n:=fun n d h=>by rw[mP,if_neg];unfold lU at h;split at h <;> omega
 have r2:∀d:List UInt8,0<lU d→val (gW d)=lU d:=fun d h=>by rw[qD,if_neg (by omega)]
 have r1:∀n d:List UInt8,0<lU d→val (gL n d)=val n:=fun n d h=>by rw[mP,if_neg];unfold lU at h;split at h <;> omega
 have r2:∀d:List UInt8,0<lU d→val (gW d)=lU d:=fun d h=>by rw[qD,if_neg (by omega)]
 have r1:∀n d:List UInt8,0<lU d→val (gL n d)=val n:=fun n d h=>by rw[mP,if_neg];unfold lU at h;split at h <;> omega
 have r2:∀d:List UInt8,0<lU d→val (gW d)=lU d:=fun d h=>by rw[qD,if_neg (by omega)]
 have r1:∀n d:List UInt8,0<lU d→val (gL n d)=val n:=fun n d h=>by rw[mP,if_neg];unfold lU at h;split at h <;> omega
 have r2:∀d:List UInt8,0<lU d→val (gW d)=lU d:=fun d h=>by rw[qD,if_neg (by omega)]
 have r1:∀n d:List UInt8,0<lU d→val (gL n d)=val n:=fun n d h=>by rw[mP,if_neg];unfold lU at h;split at h <;> omega
 have r2:∀d:List UInt8,0<lU d→val (gW d)=lU d:=fun d h=>by rw[qD,if_neg (by omega)]
 unfold nE;rw[r1 _ _ h,r1 _ _ h',r2 _ h,r2 _ h']
theorem aXn(n d:List UInt8):∃s:Int,(s=1∨s = -1)∧val (gL n d)=s*val n∧val (gW d)=s*lU d:=by
 rw[mP,qD];have hd:val d<0↔lU d<0:=by unfold lU;split <;> omega
 by_cases h:lU d<0
 ·rw[if_pos (hd.2 h),if_pos h];exact⟨-1,.inr rfl,by omega,by omega⟩
 ·rw[if_neg (fun e=>h (hd.1 e)),if_neg h];exact⟨1,.inl rfl,by omega,by omega⟩
end
section
open Go Go.RowKit Num
theorem aY5:aC 1=[1]:=by rw[iA (by decide),show 1/1000000000=0 by decide,aT]
theorem bBo(W:World):dT (W.alloc (.cells #[.int .u64 1] 134)) (some ⟨W.heap.size,0,none⟩) (gs (aC 1)):=by
 have h:=heap_alloc_new W (.cells #[.int .u64 1] 134);rw[aY5];have:(W.alloc (.cells #[.int .u64 1] 134)).heap[W.heap.size]?=some (.cells (gs [1] ++ []).toArray 134 (0,0)):=by rw[List.append_nil];exact h
 exact eC this
theorem bAz(x:Nat)(a a':Option Addr)(cap cap':Nat)(w:World)(h1:(aC x).length≤1000000000000)(hr:dT w a (gs (aC x)))(hr':dT w a' (gs (aC 1))):
  Calls Tryz.prog 98 #[.slice a (aC x).length cap,.slice a' 1 cap'] w fun e w'=>∃b c,e=.returned (.slice (some ⟨b,0,none⟩) (aC (x+1)).length c)∧(aC (x+1)).length≤c∧w.heap.size≤b∧dT w' (some ⟨b,0,none⟩) (gs (aC (x+1)))∧Below w.heap.size w w':=by
 have h:=Tp x 1 a a' cap cap' w h1 (by rw[aY5];decide) hr hr';rw[aY5] at h;exact h
theorem aZ1(q:Nat):(aC (q+1)).length≤(aC q).length+1:=by
 have h:=bP (show q+1≤q*1000000000+999999999 by omega);rw[iA (show q*1000000000+999999999≠0 by omega),show (q*1000000000+999999999)/1000000000=q by omega,List.length_cons] at h;exact h
theorem aZh{x n q r:Int}(hn:0<n)(e:n*q+r=x)(h5:0≤r)(h6:r<n):x.fdiv n=q∧x.fmod n=r:=by
 rw[Int.fdiv_eq_ediv_of_nonneg _ (by omega),Int.fmod_eq_emod_of_nonneg _ (by omega)];have e2:(n*q+r)/n=q:=by rw[Int.mul_comm,Int.add_comm,Int.add_mul_ediv_right _ _ (by omega),Int.ediv_eq_zero_of_lt h5 h6];omega
 have e3:(n*q+r)%n=r:=by rw[Int.mul_comm,Int.add_comm,Int.add_mul_emod_self_right,Int.emod_eq_of_lt h5 h6]
 rw[e] at e2 e3;exact⟨e2,e3⟩
theorem bAv{x y:Nat}(hy:0<y)(hr:x%y≠0):(-(x:Int)).fdiv y = -((x/y+1:Nat):Int)∧(-(x:Int)).fmod y=((y-x%y:Nat):Int):=by
 have hd:=Nat.div_add_mod x y;have hm:=Nat.mod_lt x hy;have hdi:(y:Int)*((x/y:Nat):Int)+((x%y:Nat):Int)=(x:Int):=by exact_mod_cast hd
 refine aZh (by omega) ?_ (by omega) (by omega);have e1:((y-x%y:Nat):Int)=(y:Int)-((x%y:Nat):Int):=by omega
 have e2:((x/y+1:Nat):Int)=((x/y:Nat):Int)+1:=by omega
 rw[e1,e2,←hdi,Int.mul_neg,Int.mul_add,Int.mul_one];omega
theorem bA3(x y:Nat)(l m:List UInt8)(w:World)(hE:iE w)(hl:l.length≤10000000000)(hm:m.length≤10000000000)(ex:x=bK (aZ l))(ey:y=bK (aZ m))(enx:true=dD l)(eny:false=dD m)(hy:y≠0)(h0:x%y≠0):
  Calls Tryz.prog 96 #[.string ⟨l.toArray⟩,.string ⟨m.toArray⟩] w fun e w'=>e=.returned (.tuple #[.string ⟨(Fw true (x/y+1)).toArray⟩,.string ⟨(Fw false (y-x%y)).toArray⟩,.int .i64 0])∧Below w.heap.size w w':=by
 have H1:=Hd (fun W=>dX l W (by omega));have H2:=Hd (fun W=>dX m W (by omega));have g1:=dL l;have g2:=dL m;rw[←ex] at g1 H1;rw[←ey] at g2 H2;rw[←enx] at H1;rw[←eny] at H2;clear ex ey enx eny;have gq:=bP (Nat.div_le_self x y);have gq1:=aZ1 (x/y);have hmod:=Nat.mod_lt x (Nat.pos_of_ne_zero hy);have gr:=bP (Nat.le_of_lt hmod);have gs1:=bP (Nat.sub_le y (x%y));have H3:=Hd (fun a a' cap cap' w h1=>pH x y a a' cap cap' w hy (by omega) (by omega) h1);have hyl:(aC y).length≠0:=by intro e;exact hy ((bO y).1 (List.eq_nil_of_length_eq_zero e))
 have hyl':(((aC y).length:Int)==0)=false:=by simp;exact fun e=>hyl (by rw[e];rfl)
 have hrl:(0:Int)<((aC (x%y)).length:Int):=by
  have:(aC (x%y)).length≠0:=by intro e;exact h0 ((bO _).1 (List.eq_nil_of_length_eq_zero e))
  omega
 have HE:=Hd hE;have HG:=Hd (And.intro g1 (And.intro g2 (And.intro gq (And.intro gr (And.intro gq1 (And.intro gs1 (Nat.le_of_lt hmod)))))));clear hE g1 g2 gq gr hyl gq1 gs1 hmod;go_enter Tryz.func96,Tryz.ntmps96;go_wp2_with fail;refine(H1.out _).mono ?_;rintro e w1 ⟨a,c,rfl,hc,hf,hr,hb⟩;go_wp2_with fail;refine(H2.out _).mono ?_;rintro e w2 ⟨a',c',rfl,hc',hf',hr',hb'⟩;have HX:=Hd (fun o1 o2=>show Below w2.heap.size w2 ((w2.alloc o1).alloc o2) from((Br _ _).alloc (Nl _) _).alloc (by simp) _);have HR:=Hd (And.intro (hr.below hb') hr');clear hr hr';go_wp2_with fail;refine(H3.out a a' c c' _ hc (HR.out.1.below (HX.out _ _)) (HR.out.2.below (HX.out _ _))).mono ?_;rintro e w3 ⟨b1,b2,c1,c2,rfl,hc1,hc2,hr1,hr2,hb3⟩;have q:=vM (n:=0) hb3;have k0:=aS q.1 0;have k1:=aS q.2 0;have k3:=aS q.2 1;have hk:w2.heap.size<w3.heap.size:=(Ai.1 q.1).1;have hk':w2.heap.size+1<w3.heap.size:=(Ai.1 q.2).1;have KA0:=Hd (And.intro hk q.1);have KB0:=Hd (And.intro hk' q.2);have HBW:=Hd (aA (aA (aA hb hb') (HX.out _ _)) hb3);have HR1:=Hd hr1;have HR2:=Hd hr2;have HR':=Hd ((HR.out.2.below (HX.out _ _)).below hb3);clear q hb3 hr1 hr2;go_wp2_with fail;have HBc:Below w.heap.size w w3.drew:=aD HBW.out 1;have KA:aP w3.drew w2.heap.size #[.bool true,.slice a (aC x).length c] _:=⟨KA0.out.1,KA0.out.2⟩
 have KB:aP w3.drew (w2.heap.size+1) #[.bool false,.slice a' (aC y).length c'] _:=⟨KB0.out.1,KB0.out.2⟩
 have R1:dT w3.drew b1 (gs (aC (x/y))):=HR1.out;have R2:dT w3.drew b2 (gs (aC (x%y))):=HR2.out;have RY:dT w3.drew a' (gs (aC y)):=HR'.out;refine wp_region_held_drew (S:=fun W=>W.cell? ⟨w2.heap.size+1,1,none⟩=some (.slice a' (aC y).length c')) (by kernel_rfl) ?hS1 (fun hHeld=>?hR1)
 case hS1=>exact KB.cell 1
 refine tk 0 (some 37) (?v2) rfl rfl ?hy2 ?hR2
 case hy2=>(intro w hSw;(try dsimp only at hSw);go_simp;try rfl)
 simp only[pS];refine tk 3 (some 40) (?v3) rfl rfl ?hy3 ?hR3
 case hy3=>(intro w hSw;(try dsimp only at hSw);go_simp;try rfl)
 simp only[pS];refine tk 4 (some 41) (?v4) rfl rfl ?hy4 ?hR4
 case hy4=>(intro w hSw;(try dsimp only at hSw);go_simp;try rfl)
 simp only[pS];refine tk 5 (some 42) (?v5) rfl rfl ?hy5 ?hR5
 case hy5=>(intro w hSw;(try dsimp only at hSw);go_simp;try rfl)
 simp only[pS];refine wpAnyH_ready (rs:=[1]) (by kernel_rfl) (by simp) ?_;refine AllReadyH.cons (o:=_) rfl (fun K hK=>?hC6) AllReadyH.nil;rw[if_pos (by rfl)];have hbn:=aB w3.drew (.cells #[.int .u64 1] 134);have RO:=bBo w3.drew;replace HBc:=aA HBc hbn;replace KA:=KA.below hbn;replace KB:=KB.below hbn;replace R1:=R1.below hbn;replace R2:=R2.below hbn;replace RY:=RY.below hbn;clear hbn;go_simp;go_wp2_with fail;refine hK.out _ _ ?hS6 (fun hHeld=>?hR6)
 case hS6=>exact KB.cell 1
 try simp only[pS]
 refine wpAnyH_ready (rs:=[2]) (by kernel_rfl) (by simp) ?_;refine AllReadyH.cons (o:=_) rfl (fun K hK=>?hC7) AllReadyH.nil;rw[if_pos (by rfl)];go_simp;go_at_call 98;refine(bAz (x/y) b1 _ _ _ _ (by have:=HG.out;omega) R1 RO).mono ?_;rintro e w4 ⟨p,pc,rfl,hpc,_,RP,hbn⟩;replace HBc:=aA HBc hbn;replace KA:=KA.below hbn;replace KB:=KB.below hbn;replace R2:=R2.below hbn;replace RY:=RY.below hbn;clear hbn R1 RO;go_wp2_with fail;refine hK.out _ _ ?hS7 (fun hHeld=>?hR7)
 case hS7=>exact KB.cell 1
 try simp only[pS]
 refine wpAnyH_ready (rs:=[6]) (by kernel_rfl) (by simp) ?_;refine AllReadyH.cons (o:=_) rfl (fun K hK=>?hC8) AllReadyH.nil;rw[if_pos (by rfl)];go_simp;go_at_call 99;refine(Cn y (x%y) a' b2 _ _ _ HG.out.2.2.2.2.2.2 (by have:=HG.out;omega) RY R2).mono ?_;rintro e w5 ⟨mm,mc,rfl,hmc,_,RM,hbn⟩;replace HBc:=aA HBc hbn;replace KA:=KA.below hbn;replace KB:=KB.below hbn;replace RP:=RP.below hbn;clear hbn RY R2;go_wp2_with fail;refine hK.out _ _ ?hS8 (fun hHeld=>?hR8)
 case hS8=>exact KB.cell 1
 try simp only[pS]
 refine tk 7 (some 9) (?v9) rfl rfl ?hy9 ?hR9
 case hy9=>(intro w hSw;(try dsimp only at hSw);go_simp;try rfl)
 simp only[pS];refine tk 8 (some 10) (?v10) rfl rfl ?hy10 ?hR10
 case hy10=>(intro w hSw;(try dsimp only at hSw);go_simp;try rfl)
 simp only[pS];refine wpAnyH_done (by kernel_rfl) ?_ _;have HBV:=Hd HBc;have KAV:=Hd KA;have KBV:=Hd KB;have RPV:=Hd RP;have RMV:=Hd RM;have k0:=KA.cell 0;have k1:=KB.cell 0;clear HBc KA KB RP RM KA0 KB0 HR1 HR2 HR' HBW;go_wp2_with fail;have HBc:Below w.heap.size w w5.drew:=aD HBV.out 1;have KA:aP w5.drew w2.heap.size #[.bool true,.slice a (aC x).length c] _:=⟨KAV.out.1,KAV.out.2⟩
 have KB:aP w5.drew (w2.heap.size+1) #[.bool false,.slice a' (aC y).length c'] _:=⟨KBV.out.1,KBV.out.2⟩
 have R1:dT w5.drew (some ⟨p,0,none⟩) (gs (aC (x/y+1))):=RPV.out;have R2:dT w5.drew mm (gs (aC (y-x%y))):=RMV.out;refine wp_region_held_drew (S:=fun W=>W.cell? ⟨w2.heap.size,0,none⟩=some (.bool true)∧W.cell? ⟨w2.heap.size+1,0,none⟩=some (.bool false)) (by kernel_rfl) ?hS11 (fun hHeld=>?hR11)
 case hS11=>exact⟨KA.cell 0,KB.cell 0⟩
 refine tk 0 (some 44) (?v12) rfl rfl ?hy12 ?hR12
 case hy12=>(intro w hSw;(try dsimp only at hSw);go_simp;try rfl)
 simp only[pS];refine tk 1 (some 45) (?v13) rfl rfl ?hy13 ?hR13
 case hy13=>(intro w hSw;(try dsimp only at hSw);go_simp;try rfl)
 simp only[pS];refine tk 2 (some 46) (?v14) rfl rfl ?hy14 ?hR14
 case hy14=>(intro w hSw;(try dsimp only at hSw);go_simp;try rfl)
 simp only[pS];refine tk 3 (some 47) (?v15) rfl rfl ?hy15 ?hR15
 case hy15=>(intro w hSw;(try dsimp only at hSw);go_simp;try rfl)
 simp only[pS];refine tk 4 (some 48) (?v16) rfl rfl ?hy16 ?hR16
 case hy16=>(intro w hSw;(try dsimp only at hSw);go_simp;try rfl)
 simp only[pS];refine tk 5 (some 49) (?v17) rfl rfl ?hy17 ?hR17
 case hy17=>(intro w hSw;(try dsimp only at hSw);go_simp;try rfl)
 simp only[pS];refine tk 6 (some 50) (?v18) rfl rfl ?hy18 ?hR18
 case hy18=>(intro w hSw;(try dsimp only at hSw);go_simp;try rfl)
 simp only[pS];refine tk 8 (some 52) (?v19) rfl rfl ?hy19 ?hR19
 case hy19=>(intro w hSw;(try dsimp only at hSw);go_simp;try rfl)
 simp only[pS];refine tk 9 (some 53) (?v20) rfl rfl ?hy20 ?hR20
 case hy20=>(intro w hSw;(try dsimp only at hSw);go_simp;try rfl)
 simp only[pS];refine tk 10 (some 54) (?v21) rfl rfl ?hy21 ?hR21
 case hy21=>(intro w hSw;(try dsimp only at hSw);go_simp;try rfl)
 simp only[pS];refine tk 11 (some 55) (?v22) rfl rfl ?hy22 ?hR22
 case hy22=>(intro w hSw;(try dsimp only at hSw);go_simp;try rfl)
 simp only[pS];refine wpAnyH_ready (rs:=[7]) (by kernel_rfl) (by simp) ?_;refine AllReadyH.cons (o:=_) rfl (fun K hK=>?hC23) AllReadyH.nil;rw[if_pos (by rfl)];go_simp;go_at_call 58;refine(fJ (x/y+1) true (some ⟨p,0,none⟩) _ _ (HE.out.below HBc) hpc (by have:=HG.out;omega) R1).mono ?_;rintro e wn ⟨rfl,hbn⟩;replace HBc:=aA HBc hbn;replace KA:=KA.below hbn;replace KB:=KB.below hbn;replace R2:=R2.below hbn;clear hbn R1;go_wp2_with fail;refine hK.out _ _ ?hS23 (fun hHeld=>?hR23)
 case hS23=>exact⟨KA.cell 0,KB.cell 0⟩
 try simp only[pS]
 refine wpAnyH_ready (rs:=[12]) (by kernel_rfl) (by simp) ?_;refine AllReadyH.cons (o:=_) rfl (fun K hK=>?hC24) AllReadyH.nil;rw[if_pos (by rfl)];go_simp;go_at_call 58;refine(fJ (y-x%y) false mm _ _ (HE.out.below HBc) hmc (by have:=HG.out;omega) R2).mono ?_;rintro e wn ⟨rfl,hbn⟩;replace HBc:=aA HBc hbn;replace KA:=KA.below hbn;replace KB:=KB.below hbn;clear hbn R2;go_wp2_with fail;refine hK.out _ _ ?hS24 (fun hHeld=>?hR24)
 case hS24=>exact⟨KA.cell 0,KB.cell 0⟩
 try simp only[pS]
 refine tk 13 (some 4) (?v25) rfl rfl ?hy25 ?hR25
 case hy25=>(intro w hSw;(try dsimp only at hSw);go_simp;try rfl)
 simp only[pS];refine tk 14 (some 5) (?v26) rfl rfl ?hy26 ?hR26
 case hy26=>(intro w hSw;(try dsimp only at hSw);go_simp;try rfl)
 simp only[pS];refine tk 15 (some 6) (?v27) rfl rfl ?hy27 ?hR27
 case hy27=>(intro w hSw;(try dsimp only at hSw);go_simp;try rfl)
 simp only[pS];refine wpAnyH_done (by kernel_rfl) ?_ _;go_wp2;go_ret3;exact⟨rfl,HBc⟩
theorem bAc(l m:List UInt8)(w:World)(hE:iE w)(hl:l.length≤10000000000)(hm:m.length≤10000000000)(h0:0<val m):
  Calls Tryz.prog 96 #[.string ⟨l.toArray⟩,.string ⟨m.toArray⟩] w fun e w'=>e=.returned (.tuple #[.string ⟨(aJ ((val l).fdiv (val m))).toArray⟩,.string ⟨(aJ ((val l).fmod (val m))).toArray⟩,.int .i64 0])∧Below w.heap.size w w':=by
 by_cases h:dD l=dD m∨bK (aZ l)%bK (aZ m)=0
 ·exact Ry l m w hE hl hm (by omega) h
 ·have hm2:dD m=false:=by
   cases hn:dD m with
   |false=>rfl
   |true=>rw[fG m,hn] at h0;simp[sgn] at h0;omega
  have hl2:dD l=true:=by
   cases hn:dD l with
   |false=>exact absurd (.inl (hn.trans hm2.symm)) h
   |true=>rfl
  have hr:bK (aZ l)%bK (aZ m)≠0:=fun e=>h (.inr e)
  have hy:=Fv (show val m≠0 by omega);have e1:val l = -(bK (aZ l):Int):=by rw[fG l,hl2];rfl
  have e2:val m=(bK (aZ m):Int):=by rw[fG m,hm2];rfl
  obtain⟨f1,f2⟩:=bAv (Nat.pos_of_ne_zero hy) hr;have h:=bA3 _ _ l m w hE hl hm rfl rfl hl2.symm hm2.symm hy hr;rw[yC,yC] at h;rw[e1,e2,f1,f2];exact h
end
section
open Go Go.RowKit Num
theorem aZj{N D:Int}(hD:0<D):D*N.fdiv D+N.fmod D=N∧0≤N.fmod D∧N.fmod D<D:=⟨Int.mul_fdiv_add_fmod N D,Int.fmod_nonneg_of_pos _ hD,Int.fmod_lt_of_pos _ hD⟩
theorem aZd{N D:Int}:(aQ3 N D=N.fdiv D∧N.fmod D+N.fmod D≤D)∨(aQ3 N D=N.fdiv D+1∧D≤N.fmod D+N.fmod D):=by
 unfold aQ3;split
 ·rename_i h;exact .inr ⟨rfl,by rcases h with h|h <;> omega⟩
 ·rename_i h;exact .inl ⟨rfl,by omega⟩
theorem aZi{N D:Int}(hD:0<D):2*(aQ3 N D*D)≤2*N+D∧2*N-D≤2*(aQ3 N D*D):=by
 obtain⟨h1,h2,h3⟩:=aZj (N:=N) hD;have e:(N.fdiv D+1)*D=D*N.fdiv D+D:=by rw[Int.add_mul,Int.one_mul,Int.mul_comm]
 have e2:N.fdiv D*D=D*N.fdiv D:=Int.mul_comm _ _;rcases aZd (N:=N) (D:=D) with⟨h,h4⟩|⟨h,h4⟩
 ·rw[h,e2];omega
 ·rw[h,e];omega
theorem aZ4{N D:Int}(hD:0<D):aQ3 (-N) D = -aQ3 N D:=by
 obtain⟨h1,h2,h3⟩:=aZj (N:=N) hD;unfold aQ3;generalize N.fdiv D=q at *;generalize N.fmod D=r at *;have e2:∀x:Int,x.fmod 2=x%2:=fun x=>Int.fmod_eq_emod_of_nonneg _ (by decide)
 by_cases hr:r=0
 ·have h:=aZh (x:=-N) (q:=-q) (r:=0) hD (by rw[Int.mul_neg];omega) (by omega) hD;rw[h.1,h.2,hr,if_neg (by omega),if_neg (by omega)]
 ·have h:=aZh (x:=-N) (q:=-q-1) (r:=D-r) hD (by rw[Int.mul_sub,Int.mul_neg];omega) (by omega) (by omega);rw[h.1,h.2,e2,e2];rcases Int.lt_trichotomy (r+r) D with g|g|g
  ·rw[if_pos (by omega),if_neg (by omega)];omega
  ·by_cases hq:q%2=0
   ·rw[if_pos (by omega),if_neg (by omega)];omega
   ·rw[if_neg (by omega),if_pos (by omega)];omega
  ·rw[if_neg (by omega),if_pos (by omega)];omega
theorem aZy(N D:Int)(hD:D≠0):eT (-N) D = -eT N D∧fT (-N) D=fT N D:=by
 have hg:gE (-N) D=gE N D:=by unfold gE;rw[Int.natAbs_neg]
 have h1:=aKo (N:=N) hD;have h2:=aKo (N:=-N) hD;have h3:=aKp (N:=N) hD;have h4:=aKp (N:=-N) hD;rw[hg] at h2 h4;have hp:=qJ (N:=N) hD;have hne:(gE N D:Int)≠0:=by omega
 constructor
 ·refine Int.eq_of_mul_eq_mul_right hne ?_;rw[h2,Int.neg_mul,h1];split <;> omega
 ·refine Int.eq_of_mul_eq_mul_right hne ?_;rw[h4,h3]
theorem bAd(n d q q':List UInt8)(h:val q' = -val q):aRq n d q' = -aRq n d q:=by
 unfold aRq;rw[h,Int.mul_neg,(aZy _ _ (qQ d)).1,(aZy _ _ (qQ d)).2,aZ4 (aKn (qQ d))]
theorem aYq(n d q:List UInt8):∃s:Int,(s=1∨s = -1)∧0<s*lU d∧2*(aRq n d q*(s*lU d))≤2*(s*(val n*val q))+s*lU d∧2*(s*(val n*val q))-s*lU d≤2*(aRq n d q*(s*lU d)):=by
 have hd:=qQ d;have h1:=aKo (N:=val n*val q) hd;have h2:=aKp (N:=val n*val q) hd;have h3:=aKn (N:=val n*val q) hd;have hp:=qJ (N:=val n*val q) hd;obtain⟨h4,h5⟩:=aZi (N:=eT (val n*val q) (lU d)) h3;have hw:aQ3 (eT (val n*val q) (lU d)) (fT (val n*val q) (lU d))=aRq n d q:=rfl;rw[hw] at h4 h5;generalize aRq n d q=w at *;generalize eT (val n*val q) (lU d)=N at *;generalize fT (val n*val q) (lU d)=D at *;have hg:(0:Int)<(gE (val n*val q) (lU d):Int):=by omega
 generalize(gE (val n*val q) (lU d):Int)=g at *;have k4:=Int.mul_le_mul_of_nonneg_right h4 (Int.le_of_lt hg);have k5:=Int.mul_le_mul_of_nonneg_right h5 (Int.le_of_lt hg);have e1:2*(w*D)*g=2*(w*(D*g)):=by simp only[Int.mul_assoc]
 have e2:(2*N+D)*g=2*(N*g)+D*g:=by rw[Int.add_mul,Int.mul_assoc]
 have e3:(2*N-D)*g=2*(N*g)-D*g:=by rw[Int.sub_mul,Int.mul_assoc]
 rw[e1,e2] at k4;rw[e1,e3] at k5;have hpd:0<D*g:=Int.mul_pos h3 hg;rw[h2] at k4 k5 hpd;rw[h1] at k4 k5
 by_cases hneg:lU d<0
 ·rw[if_pos hneg] at k4 k5 hpd;rw[if_pos hneg] at k4 k5;refine⟨-1,.inr rfl,by omega,?_,?_⟩
  ·rw[show -1*lU d = -lU d by omega,show -1*(val n*val q) = -(val n*val q) by omega];exact k4
  ·rw[show -1*lU d = -lU d by omega,show -1*(val n*val q) = -(val n*val q) by omega];exact k5
 ·rw[if_neg hneg] at k4 k5 hpd;rw[if_neg hneg] at k4 k5;refine⟨1,.inl rfl,by omega,?_,?_⟩
  ·rw[Int.one_mul,Int.one_mul];exact k4
  ·rw[Int.one_mul,Int.one_mul];exact k5
theorem bAe(n d a b c:List UInt8)(h:val c=val a+val b):-1≤aRq n d c-(aRq n d a+aRq n d b)∧aRq n d c-(aRq n d a+aRq n d b)≤1:=by
 obtain⟨s,hs,p1,p2,p3⟩:=aYq n d a;obtain⟨t,ht,q1,q2,q3⟩:=aYq n d b;obtain⟨u,hu,r1,r2,r3⟩:=aYq n d c;have hd:=qQ d;have e1:t=s:=by rcases hs with rfl|rfl <;> rcases ht with rfl|rfl <;> omega
 have e2:u=s:=by rcases hs with rfl|rfl <;> rcases hu with rfl|rfl <;> omega
 subst e1 e2;have e3:u*(val n*val c)=u*(val n*val a)+u*(val n*val b):=by rw[h,Int.mul_add,Int.mul_add]
 rw[e3] at r2 r3;generalize u*lU d=D at *;generalize u*(val n*val a)=x at *;generalize u*(val n*val b)=y at *;generalize aRq n d a=wa at *;generalize aRq n d b=wb at *;generalize aRq n d c=wc at *;have e4:(wc-(wa+wb))*D=wc*D-(wa*D+wb*D):=by rw[Int.sub_mul,Int.add_mul]
 constructor
 ·rcases Int.lt_or_le (wc-(wa+wb)) (-1) with g|g
  ·exfalso;have:=Int.mul_le_mul_of_nonneg_right (show wc-(wa+wb)≤-2 by omega) (Int.le_of_lt r1);rw[e4] at this;omega
  ·exact g
 ·rcases Int.lt_or_le 1 (wc-(wa+wb)) with g|g
  ·exfalso;have:=Int.mul_le_mul_of_nonneg_right (show 2≤wc-(wa+wb) by omega) (Int.le_of_lt r1);rw[e4] at this;omega
  ·exact g
end
section
open Go Go.RowKit Num
theorem bAp(l:List UInt8)(w:World)(hE:iE w)(hl:l.length≤1000):
  Calls Tryz.prog 97 #[.string ⟨l.toArray⟩] w fun e w'=>e=.returned (.bool (decide ((val l).fmod 2=0)))∧Below w.heap.size w w':=by
 have HD:=Hd (bAc l [50] w hE (by omega) (by decide) (by decide));rw[show val [50]=2 from by decide] at HD;have hz:=aQz ((val l).fmod 2);generalize aJ ((val l).fmod 2)=r at *;generalize aJ ((val l).fdiv 2)=q at *;generalize decide ((val l).fmod 2=0)=b at *;clear hE hl;go_enter Tryz.func97,Tryz.ntmps97;go_wp2_with fail;refine HD.out.mono ?_;rintro e w1 ⟨rfl,hb1⟩;have HB1:=Hd hb1;clear hb1 HD;go_wp2;go_ret;exact⟨by rw[←hz];rfl,HB1.out⟩
theorem aZ5(n d:List UInt8)(w:World)(hE:iE w)(hn:n.length≤130)(hd:d.length≤130)(h1:0<fT (val n) (lU d)):
  Calls Tryz.prog 55 #[.agg #[.string ⟨n.toArray⟩,.string ⟨d.toArray⟩],.int .i64 1] w fun e w'=>e=.returned (.tuple #[.string ⟨(aJ (aQ3 (eT (val n) (lU d)) (fT (val n) (lU d)))).toArray⟩,.int .i64 0])∧Below w.heap.size w w':=by
 have HE:=Hd hE;have HP:=Hd (fun W hE=>aRe n d W hE (by omega) (by omega));have lp:(aJ (eT (val n) (lU d))).length≤131:=uE (K:=130) (by decide) (Sy (qQ d)) rfl hn;have lq:(aJ (fT (val n) (lU d))).length≤131:=uE (K:=130) (by decide) (Tk (qQ d)) (iH d).symm (qR (K:=130) (by decide) hd);generalize eT (val n) (lU d)=N at *;generalize fT (val n) (lU d)=D at *;have hrl:0≤N.fmod D∧N.fmod D<D:=⟨Int.fmod_nonneg_of_pos _ h1,Int.fmod_lt_of_pos _ h1⟩
 have abN:N.natAbs<10^131:=by have:=lO lp;rwa [bE] at this
 have abD:D.natAbs<10^131:=by have:=lO lq;rwa [bE] at this
 have ll:(aJ (N.fdiv D)).length≤132:=gC (by decide) (Nat.lt_of_le_of_lt (by rw[Int.fdiv_eq_ediv_of_nonneg _ (by omega)];exact Int.natAbs_ediv_le_natAbs _ _) (Nat.lt_of_lt_of_le abN (by decide)));have lr:(aJ (N.fmod D)).length≤132:=gC (by decide) (Nat.lt_of_le_of_lt (by omega) abD);have HDV:=Hd (fun W hE=>bAc (aJ N) (aJ D) W hE (by omega) (by omega) (by rw[bE];omega));rw[bE,bE] at HDV;have HAD:=Hd (fun W hE=>aAg (aJ (N.fdiv D)) [49] W hE (by omega) (by decide));rw[bE,jB] at HAD;have HRR:=Hd (fun W hE=>aAg (aJ (N.fmod D)) (aJ (N.fmod D)) W hE (by omega) (by omega));rw[bE] at HRR;have HCN:=Hd (fun W=>nV (aJ N) [] W (by omega) (by simp));rw[bE,show val []=0 from rfl] at HCN;have l2:(aJ (N.fmod D+N.fmod D)).length≤134:=gC (by decide) (by omega);have HCH:=Hd (fun W=>nV (aJ (N.fmod D+N.fmod D)) (aJ D) W (by omega) (by omega));rw[bE,bE] at HCH;have HEV:=Hd (fun W hE=>bAp (aJ (N.fdiv D)) W hE (by omega));rw[bE] at HEV;have hz:=aQz (N.fmod D);have HRV:Hid (aQ3 N D=if D<N.fmod D+N.fmod D∨(N.fmod D+N.fmod D=D∧¬ (N.fdiv D).fmod 2=0) then N.fdiv D+1 else N.fdiv D):=rfl;have HR0:=Hd hrl;generalize aQ3 N D=rv at *;have hc:bG (N.fmod D+N.fmod D) D=if N.fmod D+N.fmod D<D then -1 else if D<N.fmod D+N.fmod D then 1 else 0:=rfl
 clear abN abD ll lr l2 lp lq hE hn hd hrl;generalize N.fdiv D=lo at *;generalize N.fmod D=r at *;generalize bG N 0=cn at *;generalize bG (r+r) D=ch at *;obtain⟨ev,hev⟩:∃ev,ev=decide (lo.fmod 2=0):=⟨_,rfl⟩
 rw[←hev] at HEV
 by_cases hr:r=0
 ·subst hr;have hR:=HR0.out;have HV:Hid (rv=lo):=by show _=_;rw[HRV.out,if_neg (by rintro(h|⟨h,_⟩) <;> omega)]
  have hch:ch = -1:=by rw[hc,if_pos (by omega)]
  have hz':(aJ (0:Int) == [])=true:=by rw[hz];rfl
  subst hch;clear hz hc hR HR0 HRV HEV HAD;generalize aJ (0:Int)=sr at *;go_enter Tryz.func55,Tryz.ntmps55;have HB0:=Hd (aB w (.cells #[.string ⟨n.toArray⟩,.string ⟨d.toArray⟩] 28));go_wp2_with fail;refine(HP.out _ (HE.out.below HB0.out)).mono ?_;rintro e w1 ⟨rfl,hb⟩;have HB1:=Hd (aA HB0.out hb);clear hb HP HB0;go_wp2_with fail;refine(HDV.out _ (HE.out.below HB1.out)).mono ?_;rintro e w2 ⟨rfl,hb⟩;have HB2:=Hd (aA HB1.out hb);clear hb HDV HB1;go_wp2_with fail;refine(HCN.out _).mono ?_;rintro e w4 ⟨rfl,hb⟩;have HB4:=Hd (aA HB2.out hb);clear hb HCN;go_wp2_with fail;refine(HRR.out _ (HE.out.below HB4.out)).mono ?_;rintro e w5 ⟨rfl,hb⟩;have HB5:=Hd (aA HB4.out hb);clear hb HRR HB4;go_wp2_with fail;refine(HCH.out _).mono ?_;rintro e w6 ⟨rfl,hb⟩;have HB6:=Hd (aA HB5.out hb);clear hb HCH HB5;go_wp2;go_ret2;exact⟨by rw[HV.out];rfl,HB6.out⟩
 ·have hz':(aJ r == [])=false:=by rw[hz];simpa using hr
  rcases Int.lt_trichotomy (r+r) D with h|h|h
  ·have HV:Hid (rv=lo):=by show _=_;rw[HRV.out,if_neg (by rintro(h'|⟨h',_⟩) <;> omega)]
   have hch:ch = -1:=by rw[hc,if_pos h]
   subst hch;clear HEV;clear hz hc HR0 HRV h hr;go_enter Tryz.func55,Tryz.ntmps55;have HB0:=Hd (aB w (.cells #[.string ⟨n.toArray⟩,.string ⟨d.toArray⟩] 28));go_wp2_with fail;refine(HP.out _ (HE.out.below HB0.out)).mono ?_;rintro e w1 ⟨rfl,hb⟩;have HB1:=Hd (aA HB0.out hb);clear hb HP HB0;go_wp2_with fail;refine(HDV.out _ (HE.out.below HB1.out)).mono ?_;rintro e w2 ⟨rfl,hb⟩;have HB2:=Hd (aA HB1.out hb);clear hb HDV HB1;go_wp2_with fail;refine(HAD.out _ (HE.out.below HB2.out)).mono ?_;rintro e w3 ⟨rfl,hb⟩;have HB3:=Hd (aA HB2.out hb);clear hb HAD HB2;go_wp2_with fail;refine(HCN.out _).mono ?_;rintro e w4 ⟨rfl,hb⟩;have HB4:=Hd (aA HB3.out hb);clear hb HCN;go_wp2_with fail;refine(HRR.out _ (HE.out.below HB4.out)).mono ?_;rintro e w5 ⟨rfl,hb⟩;have HB5:=Hd (aA HB4.out hb);clear hb HRR HB4;go_wp2_with fail;refine(HCH.out _).mono ?_;rintro e w6 ⟨rfl,hb⟩;have HB6:=Hd (aA HB5.out hb);clear hb HCH HB5;go_wp2;go_ret2;exact⟨by rw[HV.out];rfl,HB6.out⟩
  ·have hch:ch=0:=by rw[hc,if_neg (by omega),if_neg (by omega)]
   subst hch;have HV0:Hid (rv=if ev=true then lo else lo+1):=by
    show _=_;rw[HRV.out,hev]
    by_cases h2:lo.fmod 2=0
    ·rw[if_neg (by rintro(h'|⟨_,h'⟩);omega;exact h' h2)];simp[h2]
    ·rw[if_pos (.inr ⟨h,h2⟩)];simp[h2]
   clear hev;clear hz hc HR0 HRV h hr;go_enter Tryz.func55,Tryz.ntmps55;have HB0:=Hd (aB w (.cells #[.string ⟨n.toArray⟩,.string ⟨d.toArray⟩] 28));go_wp2_with fail;refine(HP.out _ (HE.out.below HB0.out)).mono ?_;rintro e w1 ⟨rfl,hb⟩;have HB1:=Hd (aA HB0.out hb);clear hb HP HB0;go_wp2_with fail;refine(HDV.out _ (HE.out.below HB1.out)).mono ?_;rintro e w2 ⟨rfl,hb⟩;have HB2:=Hd (aA HB1.out hb);clear hb HDV HB1;go_wp2_with fail;refine(HAD.out _ (HE.out.below HB2.out)).mono ?_;rintro e w3 ⟨rfl,hb⟩;have HB3:=Hd (aA HB2.out hb);clear hb HAD HB2;go_wp2_with fail;refine(HCN.out _).mono ?_;rintro e w4 ⟨rfl,hb⟩;have HB4:=Hd (aA HB3.out hb);clear hb HCN;go_wp2_with fail;refine(HRR.out _ (HE.out.below HB4.out)).mono ?_;rintro e w5 ⟨rfl,hb⟩;have HB5:=Hd (aA HB4.out hb);clear hb HRR HB4;go_wp2_with fail;refine(HCH.out _).mono ?_;rintro e w6 ⟨rfl,hb⟩;have HB6:=Hd (aA HB5.out hb);clear hb HCH HB5;go_wp2_with fail;refine(HEV.out _ (HE.out.below HB6.out)).mono ?_;rintro e w7 ⟨rfl,hb⟩;have HB7:=Hd (aA HB6.out hb);clear hb HEV HB6;cases ev with
   |true =>
    have HV:Hid (rv=lo):=HV0.out;go_wp2;go_ret2;exact⟨by rw[HV.out];rfl,HB7.out⟩
   |false =>
    have HV:Hid (rv=lo+1):=HV0.out;go_wp2;go_ret2;exact⟨by rw[HV.out];rfl,HB7.out⟩
  ·have HV:Hid (rv=lo+1):=by show _=_;rw[HRV.out,if_pos (.inl h)]
   have hch:ch=1:=by rw[hc,if_neg (by omega),if_pos h]
   subst hch;clear HEV;clear hz hc HR0 HRV h hr;go_enter Tryz.func55,Tryz.ntmps55;have HB0:=Hd (aB w (.cells #[.string ⟨n.toArray⟩,.string ⟨d.toArray⟩] 28));go_wp2_with fail;refine(HP.out _ (HE.out.below HB0.out)).mono ?_;rintro e w1 ⟨rfl,hb⟩;have HB1:=Hd (aA HB0.out hb);clear hb HP HB0;go_wp2_with fail;refine(HDV.out _ (HE.out.below HB1.out)).mono ?_;rintro e w2 ⟨rfl,hb⟩;have HB2:=Hd (aA HB1.out hb);clear hb HDV HB1;go_wp2_with fail;refine(HAD.out _ (HE.out.below HB2.out)).mono ?_;rintro e w3 ⟨rfl,hb⟩;have HB3:=Hd (aA HB2.out hb);clear hb HAD HB2;go_wp2_with fail;refine(HCN.out _).mono ?_;rintro e w4 ⟨rfl,hb⟩;have HB4:=Hd (aA HB3.out hb);clear hb HCN;go_wp2_with fail;refine(HRR.out _ (HE.out.below HB4.out)).mono ?_;rintro e w5 ⟨rfl,hb⟩;have HB5:=Hd (aA HB4.out hb);clear hb HRR HB4;go_wp2_with fail;refine(HCH.out _).mono ?_;rintro e w6 ⟨rfl,hb⟩;have HB6:=Hd (aA HB5.out hb);clear hb HCH HB5;go_wp2;go_ret2;exact⟨by rw[HV.out];rfl,HB6.out⟩
theorem aYp(n d q:List UInt8)(w:World)(hE:iE w)(hn:n.length≤60)(hd:d.length≤60)(hq:q.length≤58):
  Calls Tryz.prog 18 #[.agg #[.string ⟨n.toArray⟩,.string ⟨d.toArray⟩],.string ⟨q.toArray⟩] w fun e w'=>e=.returned (.string ⟨(aJ (aRq n d q)).toArray⟩)∧Below w.heap.size w w':=by
 have hdn:=qQ d;have lo:(aJ (val q)).length≤60:=Nat.le_trans (gC (K:=59) (by decide) (Nat.lt_of_lt_of_le (lO hq) (by decide))) (by decide);have H1:=Hd (fun W (hb:Below w.heap.size w W)=>aQ8 q W (hE.below hb) (by omega));have H2:=Hd (fun W (hb:Below w.heap.size w W)=>aQy n d (aJ (val q)) [] W (hE.below hb) hn hd lo (by decide));have e1:aQj n (aJ (val q))=val n*val q:=by unfold aQj;rw[bE]
 have e2:aQk d []=lU d:=by unfold aQk;rw[show lU []=1 from rfl,Int.mul_one]
 rw[e1,e2] at H2;have m1:=lE (l:=n) (m:=q) hn hq (by decide);have lp:(aJ (eT (val n*val q) (lU d))).length≤130:=Nat.le_trans (uE (K:=119) (by decide) (Sy hdn) (bE _).symm m1) (by decide);have lq:(nD (fT (val n*val q) (lU d))).length≤130:=Nat.le_trans (Uz (uE (K:=60) (by decide) (Tk hdn) (iH d).symm (qR (K:=60) (by decide) hd))) (by decide);have hrp:=aKn (N:=val n*val q) hdn;obtain⟨r1,r2⟩:=aTc (N:=val n*val q) hdn;have H3:=Hd (fun W (hb:Below w.heap.size w W)=>aZ5 (aJ (eT (val n*val q) (lU d))) (nD (fT (val n*val q) (lU d))) W (hE.below hb) lp lq (by rw[bE,aK1 hrp,r2];exact hrp));rw[bE,aK1 hrp,r1,r2,show aQ3 (eT (val n*val q) (lU d)) (fT (val n*val q) (lU d))=aRq n d q from rfl] at H3;generalize aJ (aRq n d q)=v at *;generalize aJ (eT (val n*val q) (lU d))=pn at *;generalize nD (fT (val n*val q) (lU d))=pd at *;generalize aJ (val q)=on at *;clear hE lo e1 e2 m1 lp lq hrp r1 r2 hn hd hq hdn;have HB0:=Hd (aB w (.cells #[.string ⟨n.toArray⟩,.string ⟨d.toArray⟩] 28));have KX:=Hd (aP.new0 w #[.string ⟨n.toArray⟩,.string ⟨d.toArray⟩] 28);go_enter Tryz.func18,Tryz.ntmps18;go_wp2_with fail;refine aSv (C:=⟨(w.alloc (.cells #[.string ⟨n.toArray⟩,.string ⟨d.toArray⟩] 28)).drewN 1,w.heap.size,n,d,q,on,[],pn,pd,v⟩) ?M rfl rfl rfl ?_
 case M=>exact⟨rfl,rfl,rfl,KX.out.1,KX.out.cell 0,KX.out.cell 1,fun W h=>H1.out W (aA (aD HB0.out 1) h),fun W h=>H2.out W (aA (aD HB0.out 1) h),fun W h=>H3.out W (aA (aD HB0.out 1) h)⟩
 intro W hbW;have HBW:=Hd (aA (aD HB0.out 1) hbW);clear hbW H1 H2 H3 HB0 KX;simp only[iZ,aTe,List.foldl,List.setIfInBounds_toArray,List.set_cons_zero,List.set_cons_succ,PvC.val];go_wp2;go_ret;exact⟨rfl,HBW.out⟩
end
section
open Go Go.RowKit Num
theorem aZq(n d n' d':List UInt8)(w:World)(hn:n.length≤900)(hd:d.length≤900)(hn':n'.length≤900)(hd':d'.length≤900)(a1:(val (gL n d)).natAbs<big)(a2:(val (gL n' d')).natAbs<big)(a3:(val (gW d)).natAbs<big)(a4:(val (gW d')).natAbs<big)(b1:(val (gL n d)*val (gW d')).natAbs<big)(b2:(val (gL n' d')*val (gW d)).natAbs<big):
  Calls Tryz.prog 75 #[.agg #[.string ⟨n.toArray⟩,.string ⟨d.toArray⟩],.agg #[.string ⟨n'.toArray⟩,.string ⟨d'.toArray⟩]] w fun e w'=>e=.returned (.int .i64 (nE n d n' d'))∧Below w.heap.size w w':=by
 have HR1:=Hd (fun W=>Bb n d W (by omega) (by omega));have HR2:=Hd (fun W=>Bb n' d' W (by omega) (by omega));have l1:=yV (d:=d) (by decide:1≤900) hn;have l2:=yV (d:=d') (by decide:1≤900) hn';have l3:=yY (by decide:1≤900) hd;have l4:=yY (by decide:1≤900) hd';have HM1:=Hd (fun W=>aXj (gL n d) (gW d') W (by omega) (by omega) a1 a4 b1);have HM2:=Hd (fun W=>aXj (gL n' d') (gW d) W (by omega) (by omega) a2 a3 b2);have m1:=aXi b1;have m2:=aXi b2;have HC:=Hd (fun W=>iD (aJ (val (gL n d)*val (gW d'))) (aJ (val (gL n' d')*val (gW d))) W (by omega) (by omega));rw[bE,bE] at HC;have hf:bG (val (gL n d)*val (gW d')) (val (gL n' d')*val (gW d))=nE n d n' d':=rfl;rw[hf] at HC;clear a1 a2 a3 a4 b1 b2 l1 l2 l3 l4 m1 m2 hf;generalize nE n d n' d'=z at *;generalize aJ (val (gL n d)*val (gW d'))=p1 at *;generalize aJ (val (gL n' d')*val (gW d))=p2 at *;generalize gL n d=r1 at *;generalize gL n' d'=r2 at *;generalize gW d=s1 at *;generalize gW d'=s2 at *;have HB:=Hd (((Br w.heap.size w).alloc (Nl _) (.cells #[.string ⟨n.toArray⟩,.string ⟨d.toArray⟩] 28)).alloc (by simp) (.cells #[.string ⟨n'.toArray⟩,.string ⟨d'.toArray⟩] 28));have HX:Hid (aP ((w.alloc (.cells #[.string ⟨n.toArray⟩,.string ⟨d.toArray⟩] 28)).alloc (.cells #[.string ⟨n'.toArray⟩,.string ⟨d'.toArray⟩] 28)) (w.heap.size+1) #[.string ⟨n'.toArray⟩,.string ⟨d'.toArray⟩] 28):=by
  have h:=aP.new0 (w.alloc (.cells #[.string ⟨n.toArray⟩,.string ⟨d.toArray⟩] 28)) #[.string ⟨n'.toArray⟩,.string ⟨d'.toArray⟩] 28;rw[World.size_alloc] at h;exact h
 have HX0:Hid (aP ((w.alloc (.cells #[.string ⟨n.toArray⟩,.string ⟨d.toArray⟩] 28)).alloc (.cells #[.string ⟨n'.toArray⟩,.string ⟨d'.toArray⟩] 28)) w.heap.size #[.string ⟨n.toArray⟩,.string ⟨d.toArray⟩] 28):=(aP.new0 w _ _).below (aB _ _);have q0:=HX0.out.cell 0;have q1:=HX0.out.cell 1;go_enter Tryz.func75,Tryz.ntmps75;go_wp2_with fail;refine(HR1.out _).mono ?_;rintro e w1 ⟨rfl,hb1⟩;have HB1:=Hd (aA HB.out hb1);have k0:=(HX.out.below hb1).cell 0;have k1:=(HX.out.below hb1).cell 1;clear hb1 HX HX0 HB HR1 q0 q1;go_wp2_with fail;refine(HR2.out _).mono ?_;rintro e w2 ⟨rfl,hb2⟩;have HB2:=Hd (aA HB1.out hb2);clear hb2 HB1 HR2 k0 k1;go_wp2_with fail;refine(HM1.out _).mono ?_;rintro e w3 ⟨rfl,hb3⟩;have HB3:=Hd (aA HB2.out hb3);clear hb3 HB2 HM1;go_wp2_with fail;refine(HM2.out _).mono ?_;rintro e w4 ⟨rfl,hb4⟩;have HB4:=Hd (aA HB3.out hb4);clear hb4 HB3 HM2;go_wp2_with fail;refine(HC.out _).mono ?_;rintro e w5 ⟨rfl,rfl⟩;go_wp2;go_ret;exact⟨rfl,HB4.out⟩
theorem aW2{P:Program}{fn:Func}{p:Tmp}{ty:TypeId}(h:fn.results=#[.cell p ty])(tmps:Array Value)(w:World)(g:Nat)(t:TypeId)(cs:Array Value)(fr:Nat×Nat)(d:TypeDesc)
  (hp:tmps.getD p undef=.pointer (some ⟨g,0,none⟩)) (hg:w.heap[g]?=some (.cells cs t fr))
  (hu:P.underlying ty=some d) (hd:(match d with | .struct _ | .array _ _=>true|_=>false)=true) (hi:(P.info? ty).map (·.size)=some cs.size) :
  (results fn tmps).run P w=.ok (.agg cs) w:=by
 have hp':tmps[p]?.getD undef=.pointer (some ⟨g,0,none⟩):=by simpa using hp
 simp[results,h,hp',asAddr,run_loadVar_row w g t ty cs fr d hg hu hd hi]
theorem aZp(l:List UInt8)(w:World)(hl:l.length≤1000)(h1:(val l).natAbs<big):
  Calls Tryz.prog 61 #[.string ⟨l.toArray⟩] w fun e w'=>e=.returned (.agg #[.string ⟨(aJ (val l)).toArray⟩,.string ⟨#[]⟩])∧Below w.heap.size w w':=by
 have HO:=Hd (fun W=>Iz W);have HD:=Hd (fun W=>aXd l [49] W hl (by decide) h1 (by rw[jB];decide) (by rw[jB];decide));rw[jB,aRs,aRt,oO] at HD;have KC0:=Hd (aP.new0 w Z2 28);have HB0:=Hd (aB w (.cells Z2 28));have HLE:Hid (w.heap.size≤w.heap.size):=Nl _;obtain⟨fr,hfr⟩:∃fr:Array Value,fr=#[.string ⟨(aJ (val l)).toArray⟩,.string ⟨#[]⟩]:=⟨_,rfl⟩
 have HSF:Hid ((Tryz.prog.info? 28).map (·.size)=some fr.size):=by show _=_;rw[hfr];exact aPp
 have HONF:Hid (fr.all (·.oneCell')=true):=by show _=_;rw[hfr];simp[Value.oneCell']
 have HS2:Hid (Z2.size=fr.size):=by show _=_;rw[hfr];rfl
 have HD2:Hid (∀W,Calls Tryz.prog 114 #[.string ⟨l.toArray⟩,.string ⟨([49]:List UInt8).toArray⟩] W fun e w'=>e=.returned (.agg fr)∧Below W.heap.size W w'):=by rw[hfr];exact HD.out
 rw[←hfr];clear hfr h1 HD;go_enter Tryz.func61,Tryz.ntmps61;go_wp2_with fail;refine(HO.out _).mono ?_;rintro e w1 ⟨rfl,rfl⟩;go_wp2_with fail;refine(HD2.out _).mono ?_;rintro e w1 ⟨rfl,hb⟩;have HB1:=Hd (aA HB0.out hb);have KC1:=Hd (KC0.out.below hb);clear hb HB0 HD2 KC0;go_wp2_with (refine aOw rfl 28 _ _ rfl (w.heap.size) rfl fr rfl KC1.out HSF.out HS2.out HONF.out ?_;intro w2 kx bx _ _;have HB2:=Hd (HB1.out.trans (bx _ HLE.out));have KX:=Hd kx;clear kx bx);refine bodyPost_ret (aW2 rfl _ _ _ _ _ (0,0) _ rfl KX.out.2 Tryz.underlying28 rfl HSF.out) rfl ⟨rfl,HB2.out⟩
theorem aXy(n d n' d':List UInt8):(val (gL n d)*val (gL n' d')).natAbs=(val n*val n').natAbs∧(val (gW d)*val (gW d')).natAbs=(lU d*lU d').natAbs∧(val (gL n d)*val (gW d')).natAbs=(val n*lU d').natAbs∧(val (gL n' d')*val (gW d)).natAbs=(val n'*lU d).natAbs:=by
 simp only[Int.natAbs_mul,yW,yZ,and_self]
theorem bAa(n d n' d':List UInt8):eT (val (gL n d)*val (gL n' d')) (val (gW d)*val (gW d'))=eT (aQj n n') (aQk d d')∧fT (val (gL n d)*val (gL n' d')) (val (gW d)*val (gW d'))=fT (aQj n n') (aQk d d'):=by
 obtain⟨s,hs,e1,e2⟩:=aXn n d;obtain⟨t,ht,e3,e4⟩:=aXn n' d';have h1:=qQ d;have h2:=qQ d';have hs0:s≠0:=by omega
 have ht0:t≠0:=by omega
 rw[e1,e2,e3,e4];unfold aQj aQk;refine aTo (Int.mul_ne_zero (Int.mul_ne_zero hs0 h1) (Int.mul_ne_zero ht0 h2)) (Int.mul_ne_zero h1 h2) ?_;simp only[Int.mul_assoc,Int.mul_comm,Int.mul_left_comm]
theorem bAs(n d n' d':List UInt8)(w:World)(hn:n.length≤900)(hd:d.length≤900)(hn':n'.length≤900)(hd':d'.length≤900)(a1:(val n).natAbs<big)(a2:(val n').natAbs<big)(a3:(lU d).natAbs<big)(a4:(lU d').natAbs<big)(b1:(val n*val n').natAbs<big)(b2:(lU d*lU d').natAbs<big):
  Calls Tryz.prog 60 #[.agg #[.string ⟨n.toArray⟩,.string ⟨d.toArray⟩],.agg #[.string ⟨n'.toArray⟩,.string ⟨d'.toArray⟩]] w fun e w'=>e=.returned (.agg #[.string ⟨(aJ (eT (aQj n n') (aQk d d'))).toArray⟩,.string ⟨(nD (fT (aQj n n') (aQk d d'))).toArray⟩])∧Below w.heap.size w w':=by
 have l1:=yV (d:=d) (by decide:1≤900) hn;have l2:=yV (d:=d') (by decide:1≤900) hn';have l3:=yY (by decide:1≤900) hd;have l4:=yY (by decide:1≤900) hd';rw[←yW n d] at a1;rw[←yW n' d'] at a2;rw[←yZ d] at a3;rw[←yZ d'] at a4;have HR1:=Hd (fun W=>Bb n d W (by omega) (by omega));have HR2:=Hd (fun W=>Bb n' d' W (by omega) (by omega));rw[← (aXy n d n' d').1] at b1;rw[← (aXy n d n' d').2.1] at b2;have hp:=Int.mul_pos (Tn d) (Tn d');have HM1:=Hd (fun W=>aXj (gL n d) (gL n' d') W (by omega) (by omega) a1 a2 b1);have HM2:=Hd (fun W=>aXj (gW d) (gW d') W (by omega) (by omega) a3 a4 b2);have hrd:=fun W=>aXd (aJ (val (gL n d)*val (gL n' d'))) (aJ (val (gW d)*val (gW d'))) W (by have:=aXi b1;omega) (by have:=aXi b2;omega) (by rw[bE];exact b1) (by rw[bE];exact b2) (by rw[bE];exact hp)
 rw[bE,bE,(bAa n d n' d').1,(bAa n d n' d').2] at hrd;obtain⟨fr,hfr⟩:∃fr:Array Value,fr=#[.string ⟨(aJ (eT (aQj n n') (aQk d d'))).toArray⟩,.string ⟨(nD (fT (aQj n n') (aQk d d'))).toArray⟩]:=⟨_,rfl⟩
 have HSF:Hid ((Tryz.prog.info? 28).map (·.size)=some fr.size):=by show _=_;rw[hfr];exact aPp
 have HONF:Hid (fr.all (·.oneCell')=true):=by show _=_;rw[hfr];simp[Value.oneCell']
 have HS2:Hid (Z2.size=fr.size):=by show _=_;rw[hfr];rfl
 rw[←hfr];have HD:=Hd (fun W=>hrd W);rw[←hfr] at HD;clear hfr;clear hrd hp a1 a2 a3 a4 b1 b2 l1 l2 l3 l4;generalize aJ (val (gL n d)*val (gL n' d'))=p1 at *;generalize aJ (val (gW d)*val (gW d'))=p2 at *;generalize gL n d=r1 at *;generalize gL n' d'=r2 at *;generalize gW d=s1 at *;generalize gW d'=s2 at *;have KA:Hid (aP (((w.alloc (.cells #[.string ⟨n.toArray⟩,.string ⟨d.toArray⟩] 28)).alloc (.cells #[.string ⟨n'.toArray⟩,.string ⟨d'.toArray⟩] 28)).alloc (.cells Z2 28)) w.heap.size #[.string ⟨n.toArray⟩,.string ⟨d.toArray⟩] 28):=((aP.new0 w _ _).below (aB _ _)).below (aB _ _);have KB:Hid (aP (((w.alloc (.cells #[.string ⟨n.toArray⟩,.string ⟨d.toArray⟩] 28)).alloc (.cells #[.string ⟨n'.toArray⟩,.string ⟨d'.toArray⟩] 28)).alloc (.cells Z2 28)) (w.heap.size+1) #[.string ⟨n'.toArray⟩,.string ⟨d'.toArray⟩] 28):=by
  have h:=(aP.new0 (w.alloc (.cells #[.string ⟨n.toArray⟩,.string ⟨d.toArray⟩] 28)) #[.string ⟨n'.toArray⟩,.string ⟨d'.toArray⟩] 28).below (aB _ (.cells Z2 28));rw[World.size_alloc] at h;exact h
 have KC:Hid (aP (((w.alloc (.cells #[.string ⟨n.toArray⟩,.string ⟨d.toArray⟩] 28)).alloc (.cells #[.string ⟨n'.toArray⟩,.string ⟨d'.toArray⟩] 28)).alloc (.cells Z2 28)) (w.heap.size+1+1) Z2 28):=by
  have h:=aP.new0 ((w.alloc (.cells #[.string ⟨n.toArray⟩,.string ⟨d.toArray⟩] 28)).alloc (.cells #[.string ⟨n'.toArray⟩,.string ⟨d'.toArray⟩] 28)) Z2 28;rw[World.size_alloc,World.size_alloc] at h;exact h
 have HB:Hid (Below w.heap.size w (((w.alloc (.cells #[.string ⟨n.toArray⟩,.string ⟨d.toArray⟩] 28)).alloc (.cells #[.string ⟨n'.toArray⟩,.string ⟨d'.toArray⟩] 28)).alloc (.cells Z2 28))):=aA (aA (aB _ _) (aB _ _)) (aB _ _);have HLE:Hid (w.heap.size≤w.heap.size+1+1):=by show _≤_;omega
 have q0:=KA.out.cell 0;have q1:=KA.out.cell 1;go_enter Tryz.func60,Tryz.ntmps60;go_wp2_with fail;refine(HR1.out _).mono ?_;rintro e w1 ⟨rfl,hb1⟩;have HB1:=Hd (aA HB.out hb1);have k0:=(KB.out.below hb1).cell 0;have k1:=(KB.out.below hb1).cell 1;have KC1:=Hd (KC.out.below hb1);clear hb1 KA KB KC HB HR1 q0 q1;go_wp2_with fail;refine(HR2.out _).mono ?_;rintro e w2 ⟨rfl,hb2⟩;have HB2:=Hd (aA HB1.out hb2);have KC2:=Hd (KC1.out.below hb2);clear hb2 HB1 HR2 KC1 k0 k1;go_wp2_with fail;refine(HM1.out _).mono ?_;rintro e w3 ⟨rfl,hb⟩;have HB3:=Hd (aA HB2.out hb);have KC3:=Hd (KC2.out.below hb);clear hb HB2 HM1 KC2;go_wp2_with fail;refine(HM2.out _).mono ?_;rintro e w4 ⟨rfl,hb⟩;have HB4:=Hd (aA HB3.out hb);have KC4:=Hd (KC3.out.below hb);clear hb HB3 HM2 KC3;go_wp2_with fail;refine(HD.out _).mono ?_;rintro e w5 ⟨rfl,hb⟩;have HB5:=Hd (aA HB4.out hb);have KC5:=Hd (KC4.out.below hb);clear hb HB4 HD KC4;go_wp2_with (refine aOw rfl 28 _ _ rfl (w.heap.size+1+1) rfl fr rfl KC5.out HSF.out HS2.out HONF.out ?_;intro w6 kx bx _ _;have HB6:=Hd (HB5.out.trans (bx _ HLE.out));have KX:=Hd kx;clear kx bx);refine bodyPost_ret (aW2 rfl _ _ _ _ _ (0,0) _ rfl KX.out.2 Tryz.underlying28 rfl HSF.out) rfl ⟨rfl,HB6.out⟩
theorem bAb(n d n' d':List UInt8):eT (val (gL n d)*val (gW d')+val (gL n' d')*val (gW d)) (val (gW d)*val (gW d'))=eT (val n*lU d'+val n'*lU d) (aQk d d')∧fT (val (gL n d)*val (gW d')+val (gL n' d')*val (gW d)) (val (gW d)*val (gW d'))=fT (val n*lU d'+val n'*lU d) (aQk d d'):=by
 obtain⟨s,hs,e1,e2⟩:=aXn n d;obtain⟨t,ht,e3,e4⟩:=aXn n' d';have h1:=qQ d;have h2:=qQ d';have hs0:s≠0:=by omega
 have ht0:t≠0:=by omega
 rw[e1,e2,e3,e4];unfold aQk;refine aTo (Int.mul_ne_zero (Int.mul_ne_zero hs0 h1) (Int.mul_ne_zero ht0 h2)) (Int.mul_ne_zero h1 h2) ?_;simp only[Int.mul_add,Int.mul_assoc,Int.mul_comm,Int.mul_left_comm]
theorem bAu(n d n' d':List UInt8)(w:World)(hn:n.length≤900)(hd:d.length≤900)(hn':n'.length≤900)(hd':d'.length≤900)(a1:(val n).natAbs<big)(a2:(val n').natAbs<big)(a3:(lU d).natAbs<big)(a4:(lU d').natAbs<big)(b1:(val n*lU d').natAbs<big)(b2:(lU d*lU d').natAbs<big)(b3:(val n'*lU d).natAbs<big)(b4:(val (gL n d)*val (gW d')+val (gL n' d')*val (gW d)).natAbs<big):
  Calls Tryz.prog 154 #[.agg #[.string ⟨n.toArray⟩,.string ⟨d.toArray⟩],.agg #[.string ⟨n'.toArray⟩,.string ⟨d'.toArray⟩]] w fun e w'=>e=.returned (.agg #[.string ⟨(aJ (eT (val n*lU d'+val n'*lU d) (aQk d d'))).toArray⟩,.string ⟨(nD (fT (val n*lU d'+val n'*lU d) (aQk d d'))).toArray⟩])∧Below w.heap.size w w':=by
 have l1:=yV (d:=d) (by decide:1≤900) hn;have l2:=yV (d:=d') (by decide:1≤900) hn';have l3:=yY (by decide:1≤900) hd;have l4:=yY (by decide:1≤900) hd';rw[←yW n d] at a1;rw[←yW n' d'] at a2;rw[←yZ d] at a3;rw[←yZ d'] at a4;have HR1:=Hd (fun W=>Bb n d W (by omega) (by omega));have HR2:=Hd (fun W=>Bb n' d' W (by omega) (by omega));rw[← (aXy n d n' d').2.2.1] at b1;rw[← (aXy n d n' d').2.1] at b2;rw[← (aXy n d n' d').2.2.2] at b3;have hp:=Int.mul_pos (Tn d) (Tn d');have HM1:=Hd (fun W=>aXj (gL n d) (gW d') W (by omega) (by omega) a1 a4 b1);have HM2:=Hd (fun W=>aXj (gL n' d') (gW d) W (by omega) (by omega) a2 a3 b3);have HM3:=Hd (fun W=>aXj (gW d) (gW d') W (by omega) (by omega) a3 a4 b2);have HA:=Hd (fun W=>aZu (aJ (val (gL n d)*val (gW d'))) (aJ (val (gL n' d')*val (gW d))) W (by have:=aXi b1;omega) (by have:=aXi b3;omega) (by rw[bE];exact b1) (by rw[bE];exact b3));rw[bE,bE] at HA;have hrd:=fun W=>aXd (aJ (val (gL n d)*val (gW d')+val (gL n' d')*val (gW d))) (aJ (val (gW d)*val (gW d'))) W (by have:=aXi b4;omega) (by have:=aXi b2;omega) (by rw[bE];exact b4) (by rw[bE];exact b2) (by rw[bE];exact hp)
 rw[bE,bE,(bAb n d n' d').1,(bAb n d n' d').2] at hrd;obtain⟨fr,hfr⟩:∃fr:Array Value,fr=#[.string ⟨(aJ (eT (val n*lU d'+val n'*lU d) (aQk d d'))).toArray⟩,.string ⟨(nD (fT (val n*lU d'+val n'*lU d) (aQk d d'))).toArray⟩]:=⟨_,rfl⟩
 have HSF:Hid ((Tryz.prog.info? 28).map (·.size)=some fr.size):=by show _=_;rw[hfr];exact aPp
 have HONF:Hid (fr.all (·.oneCell')=true):=by show _=_;rw[hfr];simp[Value.oneCell']
 have HS2:Hid (Z2.size=fr.size):=by show _=_;rw[hfr];rfl
 rw[←hfr];have HD:=Hd (fun W=>hrd W);rw[←hfr] at HD;clear hfr;clear hrd hp a1 a2 a3 a4 b1 b2 b3 b4 l1 l2 l3 l4;generalize aJ (val (gL n d)*val (gW d')+val (gL n' d')*val (gW d))=p4 at *;generalize aJ (val (gL n d)*val (gW d'))=p1 at *;generalize aJ (val (gL n' d')*val (gW d))=p2 at *;generalize aJ (val (gW d)*val (gW d'))=p3 at *;generalize gL n d=r1 at *;generalize gL n' d'=r2 at *;generalize gW d=s1 at *;generalize gW d'=s2 at *;have KA:Hid (aP (((w.alloc (.cells #[.string ⟨n.toArray⟩,.string ⟨d.toArray⟩] 28)).alloc (.cells #[.string ⟨n'.toArray⟩,.string ⟨d'.toArray⟩] 28)).alloc (.cells Z2 28)) w.heap.size #[.string ⟨n.toArray⟩,.string ⟨d.toArray⟩] 28):=((aP.new0 w _ _).below (aB _ _)).below (aB _ _);have KB:Hid (aP (((w.alloc (.cells #[.string ⟨n.toArray⟩,.string ⟨d.toArray⟩] 28)).alloc (.cells #[.string ⟨n'.toArray⟩,.string ⟨d'.toArray⟩] 28)).alloc (.cells Z2 28)) (w.heap.size+1) #[.string ⟨n'.toArray⟩,.string ⟨d'.toArray⟩] 28):=by
  have h:=(aP.new0 (w.alloc (.cells #[.string ⟨n.toArray⟩,.string ⟨d.toArray⟩] 28)) #[.string ⟨n'.toArray⟩,.string ⟨d'.toArray⟩] 28).below (aB _ (.cells Z2 28));rw[World.size_alloc] at h;exact h
 have KC:Hid (aP (((w.alloc (.cells #[.string ⟨n.toArray⟩,.string ⟨d.toArray⟩] 28)).alloc (.cells #[.string ⟨n'.toArray⟩,.string ⟨d'.toArray⟩] 28)).alloc (.cells Z2 28)) (w.heap.size+1+1) Z2 28):=by
  have h:=aP.new0 ((w.alloc (.cells #[.string ⟨n.toArray⟩,.string ⟨d.toArray⟩] 28)).alloc (.cells #[.string ⟨n'.toArray⟩,.string ⟨d'.toArray⟩] 28)) Z2 28;rw[World.size_alloc,World.size_alloc] at h;exact h
 have HB:Hid (Below w.heap.size w (((w.alloc (.cells #[.string ⟨n.toArray⟩,.string ⟨d.toArray⟩] 28)).alloc (.cells #[.string ⟨n'.toArray⟩,.string ⟨d'.toArray⟩] 28)).alloc (.cells Z2 28))):=aA (aA (aB _ _) (aB _ _)) (aB _ _);have HLE:Hid (w.heap.size≤w.heap.size+1+1):=by show _≤_;omega
 have q0:=KA.out.cell 0;have q1:=KA.out.cell 1;go_enter Tryz.func154,Tryz.ntmps154;go_wp2_with fail;refine(HR1.out _).mono ?_;rintro e w1 ⟨rfl,hb1⟩;have HB1:=Hd (aA HB.out hb1);have k0:=(KB.out.below hb1).cell 0;have k1:=(KB.out.below hb1).cell 1;have KC1:=Hd (KC.out.below hb1);clear hb1 KA KB KC HB HR1 q0 q1;go_wp2_with fail;refine(HR2.out _).mono ?_;rintro e w2 ⟨rfl,hb2⟩;have HB2:=Hd (aA HB1.out hb2);have KC2:=Hd (KC1.out.below hb2);clear hb2 HB1 HR2 KC1 k0 k1;go_wp2_with fail;refine(HM1.out _).mono ?_;rintro e w3 ⟨rfl,hb⟩;have HB3:=Hd (aA HB2.out hb);have KC3:=Hd (KC2.out.below hb);clear hb HB2 HM1 KC2;go_wp2_with fail;refine(HM2.out _).mono ?_;rintro e w4 ⟨rfl,hb⟩;have HB4:=Hd (aA HB3.out hb);have KC4:=Hd (KC3.out.below hb);clear hb HB3 HM2 KC3;go_wp2_with fail;refine(HA.out _).mono ?_;rintro e w5 ⟨rfl,hb⟩;have HB5:=Hd (aA HB4.out hb);have KC5:=Hd (KC4.out.below hb);clear hb HB4 HA KC4;go_wp2_with fail;refine(HM3.out _).mono ?_;rintro e w6 ⟨rfl,hb⟩;have HB6:=Hd (aA HB5.out hb);have KC6:=Hd (KC5.out.below hb);clear hb HB5 HM3 KC5;go_wp2_with fail;refine(HD.out _).mono ?_;rintro e w7 ⟨rfl,hb⟩;have HB7:=Hd (aA HB6.out hb);have KC7:=Hd (KC6.out.below hb);clear hb HB6 HD KC6;go_wp2_with (refine aOw rfl 28 _ _ rfl (w.heap.size+1+1) rfl fr rfl KC7.out HSF.out HS2.out HONF.out ?_;intro w8 kx bx _ _;have HB8:=Hd (HB7.out.trans (bx _ HLE.out));have KX:=Hd kx;clear kx bx);refine bodyPost_ret (aW2 rfl _ _ _ _ _ (0,0) _ rfl KX.out.2 Tryz.underlying28 rfl HSF.out) rfl ⟨rfl,HB8.out⟩
theorem aZ9(n d:List UInt8):eT (-(val (gL n d))) (val (gW d))=eT (-(val n)) (lU d)∧fT (-(val (gL n d))) (val (gW d))=fT (-(val n)) (lU d):=by
 obtain⟨s,hs,e1,e2⟩:=aXn n d;have h1:=qQ d;have hs0:s≠0:=by omega
 rw[e1,e2];refine aTo (Int.mul_ne_zero hs0 h1) h1 ?_;rw[Int.neg_mul,Int.neg_mul,Int.mul_assoc,Int.mul_left_comm]
theorem bAr(n d:List UInt8)(w:World)(hn:n.length≤900)(hd:d.length≤900)(a1:(val n).natAbs<big)(a3:(lU d).natAbs<big):
  Calls Tryz.prog 155 #[.agg #[.string ⟨n.toArray⟩,.string ⟨d.toArray⟩]] w fun e w'=>e=.returned (.agg #[.string ⟨(aJ (eT (-(val n)) (lU d))).toArray⟩,.string ⟨(nD (fT (-(val n)) (lU d))).toArray⟩])∧Below w.heap.size w w':=by
 have l1:=yV (d:=d) (by decide:1≤900) hn;have l3:=yY (by decide:1≤900) hd;rw[←yW n d] at a1;rw[←yZ d] at a3;have HR1:=Hd (fun W=>Bb n d W (by omega) (by omega));have HN:Hid (∀W,Calls Tryz.prog 164 #[.string ⟨(gL n d).toArray⟩] W fun e w'=>e=.returned (.string ⟨(aJ (-(val (gL n d)))).toArray⟩)∧Below W.heap.size W w'):=fun W=>(Wa (gL n d) W (by omega)).mono fun e w' h=>⟨h.1,by rw[←h.2];exact Br _ _⟩
 have b1:(-(val (gL n d))).natAbs<big:=by rw[Int.natAbs_neg];exact a1
 have hrd:=fun W=>aXd (aJ (-(val (gL n d)))) (gW d) W (by have:=aXi b1;omega) (by omega) (by rw[bE];exact b1) a3 (Tn d)
 rw[bE,(aZ9 n d).1,(aZ9 n d).2] at hrd;obtain⟨fr,hfr⟩:∃fr:Array Value,fr=#[.string ⟨(aJ (eT (-(val n)) (lU d))).toArray⟩,.string ⟨(nD (fT (-(val n)) (lU d))).toArray⟩]:=⟨_,rfl⟩
 have HSF:Hid ((Tryz.prog.info? 28).map (·.size)=some fr.size):=by show _=_;rw[hfr];exact aPp
 have HONF:Hid (fr.all (·.oneCell')=true):=by show _=_;rw[hfr];simp[Value.oneCell']
 have HS2:Hid (Z2.size=fr.size):=by show _=_;rw[hfr];rfl
 rw[←hfr];have HD:=Hd (fun W=>hrd W);rw[←hfr] at HD;clear hfr;clear hrd a1 a3 b1 l1 l3;generalize aJ (-(val (gL n d)))=p1 at *;generalize gL n d=r1 at *;generalize gW d=s1 at *;have KA:Hid (aP ((w.alloc (.cells #[.string ⟨n.toArray⟩,.string ⟨d.toArray⟩] 28)).alloc (.cells Z2 28)) w.heap.size #[.string ⟨n.toArray⟩,.string ⟨d.toArray⟩] 28):=(aP.new0 w _ _).below (aB _ _);have KC:Hid (aP ((w.alloc (.cells #[.string ⟨n.toArray⟩,.string ⟨d.toArray⟩] 28)).alloc (.cells Z2 28)) (w.heap.size+1) Z2 28):=by
  have h:=aP.new0 (w.alloc (.cells #[.string ⟨n.toArray⟩,.string ⟨d.toArray⟩] 28)) Z2 28;rw[World.size_alloc] at h;exact h
 have HB:Hid (Below w.heap.size w ((w.alloc (.cells #[.string ⟨n.toArray⟩,.string ⟨d.toArray⟩] 28)).alloc (.cells Z2 28))):=aA (aB _ _) (aB _ _);have HLE:Hid (w.heap.size≤w.heap.size+1):=by show _≤_;omega
 have q0:=KA.out.cell 0;have q1:=KA.out.cell 1;go_enter Tryz.func155,Tryz.ntmps155;go_wp2_with fail;refine(HR1.out _).mono ?_;rintro e w1 ⟨rfl,hb1⟩;have HB1:=Hd (aA HB.out hb1);have KC1:=Hd (KC.out.below hb1);clear hb1 KA KC HB HR1 q0 q1;go_wp2_with fail;refine(HN.out _).mono ?_;rintro e w2 ⟨rfl,hb⟩;have HB2:=Hd (aA HB1.out hb);have KC2:=Hd (KC1.out.below hb);clear hb HB1 HN KC1;go_wp2_with fail;refine(HD.out _).mono ?_;rintro e w3 ⟨rfl,hb⟩;have HB3:=Hd (aA HB2.out hb);have KC3:=Hd (KC2.out.below hb);clear hb HB2 HD KC2;go_wp2_with (refine aOw rfl 28 _ _ rfl (w.heap.size+1) rfl fr rfl KC3.out HSF.out HS2.out HONF.out ?_;intro w4 kx bx _ _;have HB4:=Hd (HB3.out.trans (bx _ HLE.out));have KX:=Hd kx;clear kx bx);refine bodyPost_ret (aW2 rfl _ _ _ _ _ (0,0) _ rfl KX.out.2 Tryz.underlying28 rfl HSF.out) rfl ⟨rfl,HB4.out⟩
theorem aZ8(n d:List UInt8)(w:World)(hn:n.length≤900)(hd:d.length≤900)(a5:(val n).natAbs+(lU d).natAbs<big)(h0:0<lU d):
  Calls Tryz.prog 108 #[.agg #[.string ⟨n.toArray⟩,.string ⟨d.toArray⟩]] w fun e w'=>e=.returned (.string ⟨(aJ (val n/lU d)).toArray⟩)∧Below w.heap.size w w':=by
 have a1:(val n).natAbs<big:=by omega
 have a3:(lU d).natAbs<big:=by omega
 have l1:=yV (d:=d) (by decide:1≤900) hn;have l3:=yY (by decide:1≤900) hd;have e1:val (gL n d)=val n:=by rw[mP,if_neg (by unfold lU at h0;split at h0 <;> omega)]
 have e2:val (gW d)=lU d:=by rw[qD,if_neg (by omega)]
 have HR1:=Hd (fun W=>Bb n d W (by omega) (by omega));have HDV:=Hd (fun W=>aXk (gL n d) (gW d) W (by omega) (by omega) (by rw[e1];exact a1) (by rw[e2];exact a3) (by rw[e2];exact h0));rw[e1,e2] at HDV;have hq:(val n/lU d).natAbs<big:=Nat.lt_of_le_of_lt (Int.natAbs_ediv_le_natAbs _ _) a1;have hle:=Int.ediv_mul_le (val n) (show lU d≠0 by omega);have hgt:=Int.lt_ediv_add_one_mul_self (val n) h0;rw[Int.add_mul,Int.one_mul] at hgt;have hqd:(val n/lU d*lU d).natAbs<big:=by
  generalize val n/lU d*lU d=z at *;omega
 have HM:=Hd (fun W=>aXj (aJ (val n/lU d)) (gW d) W (by have:=aXi hq;omega) (by omega) (by rw[bE];exact hq) (by rw[e2];exact a3) (by rw[bE,e2];exact hqd));rw[bE,e2] at HM;have HC:=Hd (fun W=>iD (aJ (val n/lU d*lU d)) (gL n d) W (by have:=aXi hqd;omega) (by omega));rw[bE,e1] at HC;have hz:¬ 0<bG (val n/lU d*lU d) (val n):=by unfold bG;split;decide;rw[if_neg (by omega)];decide
 clear e1 e2 l1 l3 hq hqd hle hgt a1 a3 a5 h0;generalize bG (val n/lU d*lU d) (val n)=z at *;generalize aJ (val n/lU d*lU d)=p1 at *;generalize aJ (val n/lU d)=p2 at *;generalize aJ (val n%lU d)=p3 at *;generalize gL n d=r1 at *;generalize gW d=s1 at *;have KA:=Hd (aP.new0 w #[.string ⟨n.toArray⟩,.string ⟨d.toArray⟩] 28);have HB:=Hd (aB w (.cells #[.string ⟨n.toArray⟩,.string ⟨d.toArray⟩] 28));have q0:=KA.out.cell 0;have q1:=KA.out.cell 1;go_enter Tryz.func108,Tryz.ntmps108;go_wp2_with fail;refine(HR1.out _).mono ?_;rintro e w1 ⟨rfl,hb⟩;have HB1:=Hd (aA HB.out hb);clear hb KA HB HR1 q0 q1;go_wp2_with fail;refine(HDV.out _).mono ?_;rintro e w2 ⟨rfl,hb⟩;have HB2:=Hd (aA HB1.out hb);clear hb HB1 HDV;go_wp2_with fail;refine(HM.out _).mono ?_;rintro e w3 ⟨rfl,hb⟩;have HB3:=Hd (aA HB2.out hb);clear hb HB2 HM;go_wp2_with fail;refine(HC.out _).mono ?_;rintro e w4 ⟨rfl,rfl⟩;go_wp2;go_ret;exact⟨rfl,HB3.out⟩
end
section
open Go Go.RowKit Num
theorem aZx{P Q:Int}(h:0<Q):aQ3 P Q=if Q<P%Q+P%Q∨(P%Q+P%Q=Q∧¬ (P/Q)%2=0) then P/Q+1 else P/Q:=by
 unfold aQ3;rw[Int.fdiv_eq_ediv_of_nonneg _ (by omega),Int.fmod_eq_emod_of_nonneg _ (by omega),Int.fmod_eq_emod_of_nonneg _ (by decide)]
theorem bA1{r Q:Int}(h:0<Q):bG (eT r Q*2) (1*fT r Q)=bG (r+r) Q:=by
 have h1:=aKo (N:=r) (D:=Q) (by omega);have h2:=aKp (N:=r) (D:=Q) (by omega);rw[if_neg (by omega)] at h1 h2;have hg:=qJ (N:=r) (D:=Q) (by omega);generalize eT r Q=a at *;generalize fT r Q=b at *;generalize gE r Q=g at *;have hg':(0:Int)<g:=by omega
 subst h1 h2;have e:a*(g:Int)+a*g=a*2*g:=by rw[Int.mul_assoc,Int.mul_comm 2,←Int.mul_assoc];omega
 rw[e,Int.one_mul];unfold bG;have lt:∀x y:Int,x*g<y*g↔x<y:=fun x y=>⟨fun h=>Int.lt_of_mul_lt_mul_right h (by omega),fun h=>Int.mul_lt_mul_of_pos_right h hg'⟩
 simp only[lt]
theorem bAi{r Q:Int}(h:0<Q):eT r Q=0↔r=0:=by
 have h1:=aKo (N:=r) (D:=Q) (by omega);rw[if_neg (by omega)] at h1;constructor
 ·intro e;rw[e] at h1;omega
 ·intro e;rw[e];exact Cj Q
theorem aZk{n:Nat}(h:n≠0):∃l c,aU n=l ++ [c]∧bF c=true∧(c.toNat-48)%2=n%2:=by
 have hne:aU n ≠ []:=fun e=>h ((qT n).1 e)
 refine⟨(aU n).dropLast,(aU n).getLast hne,(List.dropLast_concat_getLast hne).symm,?_,?_⟩
 ·exact List.all_eq_true.1 (At n) _ (List.getLast_mem hne)
 ·have h1:=zF (aU n).dropLast ((aU n).getLast hne);rw[List.dropLast_concat_getLast,sK] at h1;omega
theorem aZ6{z:Int}(h:z≠0):∃l c,aJ z=l ++ [c]∧bF c=true∧((c.toNat-48)%2=0↔z%2=0):=by
 by_cases hz:z<0
 ·obtain⟨l,c,e,h1,h2⟩:=aZk (n:=z.natAbs) (by omega);refine⟨45::l,c,?_,h1,by omega⟩;have e2:aU z.natAbs=Lib.decDigits z.natAbs:=by unfold aU;rw[if_neg (by omega)]
  unfold aJ;rw[if_pos hz,←e2,e];rfl
 ·obtain⟨l,c,e,h1,h2⟩:=aZk (n:=z.toNat) (by omega);refine⟨l,c,?_,h1,by omega⟩;unfold aJ;rw[if_neg hz,e]
theorem bAt(l:List UInt8)(w:World)(hl:l.length≤1000)(hc:(aJ (val l)).length≤1000):
  Calls Tryz.prog 112 #[.string ⟨l.toArray⟩] w fun e w'=>e=.returned (.bool (decide (val l%2=0)))∧Below w.heap.size w w':=by
 have HC:=Hd (fun W=>qV l W (by omega))
 by_cases h:val l=0
 ·have e1:aJ (val l)=[]:=by rw[h];rfl
  rw[e1] at HC;rw[decide_eq_true (show val l%2=0 by omega)];clear e1 h hc;go_enter Tryz.func112,Tryz.ntmps112;go_wp2_with fail;refine(HC.out _).mono ?_;rintro e w1 ⟨rfl,rfl⟩;go_wp2;go_ret;exact⟨rfl,Br _ _⟩
 ·obtain⟨m,c,e1,h1,h2⟩:=aZ6 h;have hlen:m.length≤999:=by rw[e1] at hc;simp at hc;omega
  rw[e1] at HC;have h0:m.length<(⟨(m ++ [c]).toArray⟩:ByteArray).size:=by rw[aV];simp
  have hg:=gF (m ++ [c]) m.length h0;have hcd:(m ++ [c]).getD m.length 0=c:=by simp
  rw[hcd] at hg;have hsz:(⟨(m ++ [c]).toArray⟩:ByteArray).size=m.length+1:=by rw[aV];simp
  have hne:((m ++ [c]).isEmpty)=false:=by simp
  obtain⟨h3,h4⟩:=(dO c).1 h1;obtain⟨b,hb⟩:∃b,b=decide (val l%2=0):=⟨_,rfl⟩
  have hb2:b=decide ((c.toNat-48)%2=0):=by rw[hb];exact decide_eq_decide.2 h2.symm
  rw[←hb];have hb3:(((c.toNat:Int)-48)%2==0)=b:=by rw[hb2,Bool.eq_iff_iff];simp;omega
  clear e1 h hc h2 hb h1 hcd hb2;go_enter Tryz.func112,Tryz.ntmps112;go_wp2_with fail;refine(HC.out _).mono ?_;rintro e w1 ⟨rfl,rfl⟩;go_wp2;go_ret;exact⟨rfl,Br _ _⟩
noncomputable def bBg:Array Oper:=(Tryz.f109.body.bind (jE 1)).getD #[]
def bA5:List (Nat×Nat):=[(0,5),(1,6),(2,7),(3,8)]
structure SbC where
 w:World
 n:Nat
 b:Nat
 f:bZ
 g:bZ
 ng:bZ
 r:bZ
def SbC.val(C:SbC)(_:Unit):Nat→Value
 |0=>.agg (aPf C.f)
 |1=>.agg (aPf C.g)
 |2=>.agg (aPf C.ng)
 |_=>.agg (aPf C.r)
def SbC.G(C:SbC)(_:Unit)(l:Array Bool)(W:World):Prop:=aP W C.b (aPf C.f) 28∧aP W (C.b+1) (aPf C.g) 28∧(∃u,u.size=2∧aP W (C.b+1+1) u 28∧(lP l 4→u=aPf C.r))∧Below C.n C.w W
structure SbM(C:SbC)(t0:Array Value):Prop where
 sz:t0.size=9
 t2:t0[2]?=some (.pointer (some ⟨C.b,0,none⟩))
 t3:t0[3]?=some (.pointer (some ⟨C.b+1,0,none⟩))
 t4:t0[4]?=some (.pointer (some ⟨C.b+1+1,0,none⟩))
 nn:C.n≤C.b
 hN:∀W,Calls Tryz.prog 155 #[.agg (aPf C.g)] W fun e w'=>e=.returned (.agg (aPf C.ng))∧Below W.heap.size W w'
 hA:∀W,Calls Tryz.prog 154 #[.agg (aPf C.f),.agg (aPf C.ng)] W fun e w'=>e=.returned (.agg (aPf C.r))∧Below W.heap.size W w'
section
variable {C:SbC}{t0:Array Value}{Q:Exit→Act→World→Prop}{l:Array Bool}{w:World}
theorem SbC.keep{i:Nat}{W:World}(h4:i≠4)(h:C.G () l w)(hb:Below w.heap.size w W)(hsz:C.n≤C.b):C.G () (l.setIfInBounds i true) W:=by
 obtain⟨k1,k2,⟨u,a1,a2,a3⟩,r⟩:=h;exact⟨k1.below hb,k2.below hb,⟨u,a1,a2.below hb,fun h'=>a3 (mQ h' (Ne.symm h4))⟩,r.trans (hb.mono (by have:=k1.1;omega))⟩
theorem bAf(M:SbM C t0){a:Act}(hdf:a.defers=[])(ht:a.tmps=t0)(hw:∀l,(∀j,¬ lP l j)→C.G () l (w.drewN 1))
  (hQ:∀W,aP W (C.b+1+1) (aPf C.r) 28→Below C.n C.w W→Q .normal { tmps:=iZ (C.val ()) bA5 t0,defers:=[] } W):(Code.region 1 bBg true).wp Tryz.prog Q a w:=by
 have hsz:bBg.size=5:=by kernel_rfl
 refine eV (ds:=bA5) (val:=C.val) (G:=C.G) (by kernel_rfl) (by kernel_rfl) (by decide) (fun p hp=>?_) (by kernel_rfl) ?_ (γ:=()) hdf ht (hw _ (fun j=>Gu _ _)) ?_
 ·rw[M.sz];have:∀p,p∈bA5→p.2<9:=by decide
  exact this p hp
 ·intro γ l a w i H hr;cases γ;have hi:i<5:=by
   obtain⟨_,o,ho,_⟩:=mem_ready.1 hr;have:=(Ai.1 ho).1;rw[hsz] at this;exact this
  have t2:=H.low (s:=2) (by decide) M.t2;have t3:=H.low (s:=3) (by decide) M.t3;have t4:=H.low (s:=4) (by decide) M.t4;obtain⟨k1,k2,⟨u,a1,a2,a3⟩,hB⟩:=H.g
  match i,hi,hr with
  |0,_,hr=>exact aH (X:=.load 28 (.tmp 2)) (by kernel_rfl) (fun o h=>aW h (oC t2) (gR k1) Tryz.underlying28 rfl aPp) rfl (SbC.keep (by decide) H.g (Br _ _) M.nn)
  |1,_,hr=>exact aH (X:=.load 28 (.tmp 3)) (by kernel_rfl) (fun o h=>aW h (oC t3) (gR k2) Tryz.underlying28 rfl aPp) rfl (SbC.keep (by decide) H.g (Br _ _) M.nn)
  |2,_,hr =>
   have v1:a.tmps[6]?=some (.agg (aPf C.g)):=H.dep hr 1 6 (by kernel_rfl) ⟨rfl,by decide⟩;refine gA (f:=155) (lb:=#[]) (c:=.func 155) (args:=#[.tmp 6]) (ts:=#[28]) (vs:=#[.agg (aPf C.g)]) (by kernel_rfl) rfl (enters_of Tryz.func155 (by kernel_rfl) rfl) (by simp[Act.eval,v1]) ((M.hN w).mono ?_);rintro e w' ⟨rfl,hb'⟩;exact⟨_,(),rfl,rfl,fun _ _=>rfl,SbC.keep (by decide) H.g hb' M.nn⟩
  |3,_,hr =>
   have v0:a.tmps[5]?=some (.agg (aPf C.f)):=H.dep hr 0 5 (by kernel_rfl) ⟨rfl,by decide⟩;have v2:a.tmps[7]?=some (.agg (aPf C.ng)):=H.dep hr 2 7 (by kernel_rfl) ⟨rfl,by decide⟩;refine gA (f:=154) (lb:=#[]) (c:=.func 154) (args:=#[.tmp 5,.tmp 7]) (ts:=#[28,28]) (vs:=#[.agg (aPf C.f),.agg (aPf C.ng)]) (by kernel_rfl) rfl (enters_of Tryz.func154 (by kernel_rfl) rfl) (by simp[Act.eval,v0,v2]) ((M.hA w).mono ?_);rintro e w' ⟨rfl,hb'⟩;exact⟨_,(),rfl,rfl,fun _ _=>rfl,SbC.keep (by decide) H.g hb' M.nn⟩
  |4,_,hr =>
   have v3:a.tmps[8]?=some (.agg (aPf C.r)):=H.dep hr 3 8 (by kernel_rfl) ⟨rfl,by decide⟩;exact aH0 (X:=.store 28 (.tmp 4) (.tmp 8)) (by kernel_rfl) (fun o h=>Bi h (oC t4) (oC v3) a2 aPp a1 (aP0 _)) ⟨pM k1 (by omega),pM k2 (by omega),⟨aPf C.r,rfl,Ip a2,fun _=>rfl⟩,below_setRow hB (by have:=M.nn;omega) _⟩
  |n+5,h,_=>exact absurd h (by omega)
 ·rintro⟨⟩ l W hall ⟨_,_,⟨u,_,a2,a3⟩,hB⟩;obtain rfl:=a3 (hall 4 (by rw[hsz];decide));exact hQ W a2 hB
end
theorem bAq(f g ng r:bZ)(w:World)
  (hN:∀W,Calls Tryz.prog 155 #[.agg (aPf g)] W fun e w'=>e=.returned (.agg (aPf ng))∧Below W.heap.size W w')
  (hA:∀W,Calls Tryz.prog 154 #[.agg (aPf f),.agg (aPf ng)] W fun e w'=>e=.returned (.agg (aPf r))∧Below W.heap.size W w') :
  Calls Tryz.prog 109 #[.agg (aPf f),.agg (aPf g)] w fun e w'=>e=.returned (.agg (aPf r))∧Below w.heap.size w w':=by
 obtain⟨fa,hfa⟩:∃fa,fa=aPf f:=⟨_,rfl⟩
 obtain⟨ga,hga⟩:∃ga,ga=aPf g:=⟨_,rfl⟩
 have HFA:=Hd hfa;have HGA:=Hd hga;obtain⟨W0,hW0⟩:∃W0,W0=((w.alloc (.cells fa 28)).alloc (.cells ga 28)).alloc (.cells #[.string ⟨#[]⟩,.string ⟨#[]⟩] 28):=⟨_,rfl⟩
 have KA:Hid (aP W0 w.heap.size (aPf f) 28):=by show aP _ _ _ _;rw[hW0,←hfa];exact((aP.new0 w _ _).below (aB _ _)).below (aB _ _)
 have KB:Hid (aP W0 (w.heap.size+1) (aPf g) 28):=by
  have h:=(aP.new0 (w.alloc (.cells fa 28)) ga 28).below (aB _ (.cells Z2 28));rw[World.size_alloc] at h;show aP _ _ _ _;rw[hW0,←hga];exact h
 have KC:Hid (aP W0 (w.heap.size+1+1) Z2 28):=by
  have h:=aP.new0 ((w.alloc (.cells fa 28)).alloc (.cells ga 28)) Z2 28;rw[World.size_alloc,World.size_alloc] at h;show aP _ _ _ _;rw[hW0];exact h
 have HB:Hid (Below w.heap.size w W0):=by show Below _ _ _;rw[hW0];exact aA (aA (aB _ _) (aB _ _)) (aB _ _)
 have HNN:=Hd hN;have HAA:=Hd hA;rw[←hfa,←hga];clear hN hA hfa hga;have HSF:Hid ((Tryz.prog.info? 28).map (·.size)=some (aPf r).size):=aPp;go_enter Tryz.func109,Tryz.ntmps109;go_wp2_with fail;rw[←hW0];clear hW0;refine bAf (C:=⟨w,w.heap.size,w.heap.size,f,g,ng,r⟩) ?M rfl rfl ?hw ?_
 case M=>exact⟨rfl,rfl,rfl,rfl,Nl _,HNN.out,HAA.out⟩
 case hw=>exact fun l hl=>⟨KA.out,KB.out,⟨Z2,rfl,KC.out,fun h=>absurd h (hl 4)⟩,aD HB.out 1⟩
 intro W KW hbW;have HBW:=Hd hbW;have KX:=Hd KW;clear hbW KW KA KB KC HB HNN HAA;simp only[iZ,bA5,List.foldl,List.setIfInBounds_toArray,List.set_cons_zero,List.set_cons_succ,SbC.val];go_wp2;refine bodyPost_ret (aW2 rfl _ _ _ _ _ (0,0) _ rfl KX.out.2 Tryz.underlying28 rfl HSF.out) rfl ⟨rfl,HBW.out⟩
end
section
open Go Go.RowKit Num
noncomputable def bBi:Array Oper:=(Tryz.f59.body.bind (jE 2)).getD #[]
def bA7:List (Nat×Nat):=[(0,16),(1,17),(2,18),(3,19),(4,6)]
structure RtC where
 W0:World
 b:Nat
 f:bZ
 fl:List UInt8
 o:bZ
 r:bZ
def RtC.val(C:RtC)(γ:Nat):Nat→Value
 |0=>.agg (aPf C.f)
 |1=>.string ⟨C.fl.toArray⟩
 |2=>.agg (aPf C.o)
 |3=>.agg (aPf C.r)
 |4=>.pointer (some ⟨γ,0,none⟩)
 |_=>undef
def RtC.G(C:RtC)(γ:Nat)(l:Array Bool)(W:World):Prop:=aP W C.b (aPf C.f) 28∧(lP l 4→C.W0.heap.size≤γ∧∃u,u.size=2∧aP W γ u 28∧(lP l 5→u=aPf C.r))∧Below C.W0.heap.size C.W0 W
structure RtM(C:RtC)(t0:Array Value):Prop where
 sz:t0.size=77
 t2:t0[2]?=some (.pointer (some ⟨C.b,0,none⟩))
 t5:t0[5]?=some (.string ⟨C.fl.toArray⟩)
 lt:C.b<C.W0.heap.size
 hO:∀W,Calls Tryz.prog 61 #[.string ⟨C.fl.toArray⟩] W fun e w'=>e=.returned (.agg (aPf C.o))∧Below W.heap.size W w'
 hS:∀W,Calls Tryz.prog 109 #[.agg (aPf C.f),.agg (aPf C.o)] W fun e w'=>e=.returned (.agg (aPf C.r))∧Below W.heap.size W w'
section
variable {C:RtC}{t0:Array Value}{Q:Exit→Act→World→Prop}{l:Array Bool}{w:World}
theorem RtC.keep{γ i:Nat}{W:World}(h4:i≠4)(h5:i≠5)(h:C.G γ l w)(hb:Below w.heap.size w W):C.G γ (l.setIfInBounds i true) W:=by
 obtain⟨k1,k2,r⟩:=h;exact⟨k1.below hb,fun h'=>by obtain⟨c,u,a1,a2,a3⟩:=k2 (mQ h' (Ne.symm h4));exact⟨c,u,a1,a2.below hb,fun h''=>a3 (mQ h'' (Ne.symm h5))⟩,r.trans (hb.mono r.size)⟩
theorem bAh(M:RtM C t0){a:Act}(hdf:a.defers=[])(ht:a.tmps=t0)(hw:w.drewN 1=C.W0)(hk:aP C.W0 C.b (aPf C.f) 28)
  (hQ:∀ γ W,C.W0.heap.size≤γ→aP W γ (aPf C.r) 28→aP W C.b (aPf C.f) 28→Below C.W0.heap.size C.W0 W→Q .normal { tmps:=iZ (C.val γ) bA7 t0,defers:=[] } W):(Code.region 2 bBi true).wp Tryz.prog Q a w:=by
 have hsz:bBi.size=6:=by kernel_rfl
 refine eV (ds:=bA7) (val:=C.val) (G:=C.G) (by kernel_rfl) (by kernel_rfl) (by decide) (fun p hp=>?_) (by kernel_rfl) ?_ (γ:=0) hdf ht (by rw[hw];exact⟨hk,fun h=>absurd h (Gu _ _),Br _ _⟩) ?_
 ·rw[M.sz];have:∀p,p∈bA7→p.2<77:=by decide
  exact this p hp
 ·intro γ l a w i H hr;have hi:i<6:=by
   obtain⟨_,o,ho,_⟩:=mem_ready.1 hr;have:=(Ai.1 ho).1;rw[hsz] at this;exact this
  have t2:=H.low (s:=2) (by decide) M.t2;have t5:=H.low (s:=5) (by decide) M.t5;have hno:=aYd hr;obtain⟨k1,k2,hB⟩:=H.g
  match i,hi,hr with
  |0,_,hr=>exact aH (X:=.load 28 (.tmp 2)) (by kernel_rfl) (fun o h=>aW h (oC t2) (gR k1) Tryz.underlying28 rfl aPp) rfl (RtC.keep (by decide) (by decide) H.g (Br _ _))
  |1,_,hr=>exact aH (X:=.move (.tmp 5)) (v:=.string ⟨C.fl.toArray⟩) (by kernel_rfl) (fun o h=>by simp[execOp,h,t5,go_sem]) rfl (RtC.keep (by decide) (by decide) H.g (Br _ _))
  |2,_,hr =>
   have v1:a.tmps[17]?=some (.string ⟨C.fl.toArray⟩):=H.dep hr 1 17 (by kernel_rfl) ⟨rfl,by decide⟩;refine gA (f:=61) (lb:=#[]) (c:=.func 61) (args:=#[.tmp 17]) (ts:=#[26]) (vs:=#[.string ⟨C.fl.toArray⟩]) (by kernel_rfl) rfl (enters_of Tryz.func61 (by kernel_rfl) rfl) (by simp[Act.eval,v1]) ((M.hO w).mono ?_);rintro e w' ⟨rfl,hb'⟩;exact⟨_,γ,rfl,rfl,fun _ _=>rfl,RtC.keep (by decide) (by decide) H.g hb'⟩
  |3,_,hr =>
   have v0:a.tmps[16]?=some (.agg (aPf C.f)):=H.dep hr 0 16 (by kernel_rfl) ⟨rfl,by decide⟩;have v2:a.tmps[18]?=some (.agg (aPf C.o)):=H.dep hr 2 18 (by kernel_rfl) ⟨rfl,by decide⟩;refine gA (f:=109) (lb:=#[]) (c:=.func 109) (args:=#[.tmp 16,.tmp 18]) (ts:=#[28,28]) (vs:=#[.agg (aPf C.f),.agg (aPf C.o)]) (by kernel_rfl) rfl (enters_of Tryz.func109 (by kernel_rfl) rfl) (by simp[Act.eval,v0,v2]) ((M.hS w).mono ?_);rintro e w' ⟨rfl,hb'⟩;exact⟨_,γ,rfl,rfl,fun _ _=>rfl,RtC.keep (by decide) (by decide) H.g hb'⟩
  |4,_,hr =>
   have h5:¬ lP l 5:=fun h=>hno (H.back 5 4 (by kernel_rfl) h)
   refine aLg (X:=.alloc 28) (v:=.pointer (some ⟨w.heap.size,0,none⟩)) (w':=w.alloc (.cells Z2 28)) w.heap.size (fun j hj=>?_) (by kernel_rfl) (fun o h=>by simp[execOp,h,go_sem];rfl) rfl ⟨k1.below (aB _ _),fun _=>⟨hB.size,Z2,rfl,aP.new0 w _ _,fun h=>absurd (mQ h (by decide)) h5⟩,hB.trans ((aB w _).mono hB.size)⟩
   match j,hj with
   |0,_=>rfl
   |1,_=>rfl
   |2,_=>rfl
   |3,_=>rfl
   |4,hj=>exact absurd hj hno
   |_+5,_=>rfl
  |5,_,hr =>
   have v3:a.tmps[19]?=some (.agg (aPf C.r)):=H.dep hr 3 19 (by kernel_rfl) ⟨rfl,by decide⟩;have v4:a.tmps[6]?=some (.pointer (some ⟨γ,0,none⟩)):=H.dep hr 4 6 (by kernel_rfl) ⟨rfl,by decide⟩;have o4:lP l 4:=aG hr (by kernel_rfl);obtain⟨c,u,a1,a2,a3⟩:=k2 o4;have hlt:=M.lt;exact aH0 (X:=.store 28 (.tmp 6) (.tmp 19)) (by kernel_rfl) (fun o h=>Bi h (oC v4) (oC v3) a2 aPp a1 (aP0 _)) ⟨pM k1 (by omega),fun _=>⟨c,aPf C.r,rfl,Ip a2,fun _=>rfl⟩,below_setRow hB c _⟩
  |n+6,h,_=>exact absurd h (by omega)
 ·rintro γ l W hall ⟨k1,k2,hB⟩;obtain⟨c,u,a1,a2,a3⟩:=k2 (hall 4 (by rw[hsz];decide));obtain rfl:=a3 (hall 5 (by rw[hsz];decide));exact hQ γ W c a2 k1 hB
end
theorem uA:lU []=1:=rfl
theorem aZm:val [50]=2:=by decide
theorem aZt:aJ 2=[50]:=by
 unfold aJ aU;rw[if_neg (by decide),if_neg (by decide)];exact(oR [50] (by decide) (by decide) (by decide)).symm
theorem aZo:aJ (eT 1 2)=[49]∧nD (fT 1 2)=[50]:=by
 have e1:eT 1 2=1:=by unfold eT gE;simp
 have e2:fT 1 2=2:=by unfold fT gE;simp
 rw[e1,e2,mK];refine⟨rfl,?_⟩;unfold nD;rw[aZt,if_neg (by decide)]
theorem aZr(p q:bZ)(W:World)(h:0<lU p.d)(h':0<lU q.d)(l1:p.n.length≤900)(l2:p.d.length≤900)(l3:q.n.length≤900)(l4:q.d.length≤900)(a1:(val p.n).natAbs<big)(a2:(val q.n).natAbs<big)(a3:(lU p.d).natAbs<big)(a4:(lU q.d).natAbs<big)(b1:(val p.n*lU q.d).natAbs<big)(b2:(val q.n*lU p.d).natAbs<big):
  Calls Tryz.prog 75 #[.agg (aPf p),.agg (aPf q)] W fun e w'=>e=.returned (.int .i64 (bG (val p.n*lU q.d) (val q.n*lU p.d)))∧Below W.heap.size W w':=by
 have h:=aZq p.n p.d q.n q.d W l1 l2 l3 l4 (by rw[yW];exact a1) (by rw[yW];exact a2) (by rw[yZ];exact a3) (by rw[yZ];exact a4) (by rw[(aXy p.n p.d q.n q.d).2.2.1];exact b1) (by rw[(aXy p.n p.d q.n q.d).2.2.2];exact b2);rw[aYv ‹0<lU p.d› h'] at h;exact h
theorem aZw(f:bZ)(w:World)(hn:f.n.length≤60)(hd:f.d.length≤60)(h0:0<lU f.d)(b1:(val f.n).natAbs<1000000000000000000000000000000)(b2:(lU f.d).natAbs<1000000000000000):
  Calls Tryz.prog 59 #[.agg (aPf f),.int .i64 1] w fun e w'=>e=.returned (.string ⟨(aJ (aQ3 (val f.n) (lU f.d))).toArray⟩)∧Below w.heap.size w w':=by
 have hbig:(1000000000000000000000000000000:Nat)*10000000000=big:=by decide
 have hr0:=Int.emod_nonneg (val f.n) (show lU f.d≠0 by omega);have hr1:=Int.emod_lt_of_pos (val f.n) h0;have hpq:=Int.mul_ediv_add_emod (val f.n) (lU f.d);have hq:=Int.natAbs_ediv_le_natAbs (val f.n) (lU f.d);have hrv:=aZx (P:=val f.n) h0;have HF:=Hd (fun W=>aZ8 f.n f.d W (by omega) (by omega) (by omega) h0);generalize hP:val f.n=P at hr0 hr1 hpq hq hrv HF b1 ⊢;generalize hQ:lU f.d=Q at hr0 hr1 hpq hq hrv HF b2 h0 ⊢;generalize P/Q=q at *;generalize P%Q=r at *;have hQq:-q*Q=r-P:=by rw[Int.neg_mul,Int.mul_comm q Q];omega
 have hqa:q.natAbs<big:=by omega
 have hra:(eT r Q).natAbs≤r.natAbs:=Sy (by omega);have hda:(fT r Q).natAbs≤Q.natAbs:=Tk (by omega);have hdp:=aKn (N:=r) (D:=Q) (by omega);have hdd:=aK1 hdp;have HO:=Hd (fun W=>aZp (aJ q) W (by have:=aXi hqa;omega) (by rw[bE];exact hqa));rw[bE] at HO;have HS:Hid (∀W,Calls Tryz.prog 109 #[.agg (aPf f),.agg (aPf ⟨aJ q,[]⟩)] W fun e w'=>e=.returned (.agg (aPf ⟨aJ (eT r Q),nD (fT r Q)⟩))∧Below W.heap.size W w'):=fun W=>bAq f ⟨aJ q,[]⟩ ⟨aJ (-q),[]⟩ ⟨aJ (eT r Q),nD (fT r Q)⟩ W
  (fun W=>by
   have h:=bAr (aJ q) [] W (by have:=aXi hqa;omega) (by simp) (by rw[bE];exact hqa) (by decide);rw[bE,uA,aRs,aRt,oO] at h;exact h)
  (fun W=>by
   have hqn:(-q).natAbs<big:=by rw[Int.natAbs_neg];exact hqa
   have h:=bAu f.n f.d (aJ (-q)) [] W (by omega) (by omega) (by have:=aXi hqn;omega) (by simp) (by rw[hP];omega) (by rw[bE];exact hqn) (by rw[hQ];omega) (by decide) (by rw[hP,uA,Int.mul_one];omega) (by rw[hQ,uA,Int.mul_one];omega) (by rw[bE,hQ,hQq];omega) (by
    have r1:val (gL f.n f.d)=P:=by
     have h1:¬ val f.d<0:=by have h2:=hQ;unfold lU at h2;split at h2 <;> omega
     rw[mP,if_neg h1,hP]
    have r2:val (gW f.d)=Q:=by rw[qD,hQ,if_neg (by omega)]
    have r3:val (gL (aJ (-q)) []) = -q:=by rw[mP,if_neg (by decide),bE]
    have r4:val (gW [])=1:=by decide
    rw[r1,r2,r3,r4,hQq];omega)
   rw[bE,uA,hP,hQ,Int.mul_one,hQq,show P+(r-P)=r by omega,show aQk f.d []=Q from by unfold aQk;rw[uA,hQ,Int.mul_one]] at h;exact h)
 have HZ:=Hd (fun W=>aZp [] W (by simp) (by decide));rw[show aJ (val [])=[] from rfl] at HZ;have hrb:(eT r Q).natAbs<big:=by omega
 have hlr:=aXi hrb;have hld:=Uz (aXi (show (fT r Q).natAbs<big by omega));have HC1:Hid (∀W,Calls Tryz.prog 75 #[.agg (aPf ⟨aJ (eT r Q),nD (fT r Q)⟩),.agg (aPf ⟨[],[]⟩)] W fun e w'=>e=.returned (.int .i64 (bG (eT r Q) 0))∧Below W.heap.size W w'):=fun W=>by
  have h:=aZr ⟨aJ (eT r Q),nD (fT r Q)⟩ ⟨[],[]⟩ W (by rw[hdd];exact hdp) (by decide) (by show (aJ _).length≤_;omega) (by show (nD _).length≤_;omega) (by simp) (by simp) (by show (val (aJ _)).natAbs<_;rw[bE];exact hrb) (by decide) (by show (lU (nD _)).natAbs<_;rw[hdd];omega) (by decide) (by show (val (aJ _)*_).natAbs<_;rw[bE,uA,Int.mul_one];exact hrb) (by show (0*_:Int).natAbs<_;rw[Int.zero_mul];decide);have e:bG (val (aJ (eT r Q))*lU []) (val []*lU (nD (fT r Q)))=bG (eT r Q) 0:=by rw[bE,uA,Int.mul_one,show val []=0 from rfl,Int.zero_mul]
  rw[show bG _ _=_ from e] at h;exact h
 have HC2:Hid (∀W,Calls Tryz.prog 75 #[.agg (aPf ⟨aJ (eT r Q),nD (fT r Q)⟩),.agg (aPf ⟨[49],[50]⟩)] W fun e w'=>e=.returned (.int .i64 (bG (r+r) Q))∧Below W.heap.size W w'):=fun W=>by
  have d50:lU [50]=2:=by decide
  have h:=aZr ⟨aJ (eT r Q),nD (fT r Q)⟩ ⟨[49],[50]⟩ W (by rw[hdd];exact hdp) (by decide) (by show (aJ _).length≤_;omega) (by show (nD _).length≤_;omega) (by simp) (by simp) (by show (val (aJ _)).natAbs<_;rw[bE];exact hrb) (by decide) (by show (lU (nD _)).natAbs<_;rw[hdd];omega) (by decide) (by show (val (aJ _)*lU [50]).natAbs<_;rw[bE,d50];omega) (by show (val [49]*lU (nD _)).natAbs<_;rw[jB,hdd,Int.one_mul];omega);have e:bG (val (aJ (eT r Q))*lU [50]) (val [49]*lU (nD (fT r Q)))=bG (r+r) Q:=by rw[bE,d50,jB,hdd];exact bA1 h0
  rw[show bG _ _=_ from e] at h;exact h
 have HC3:Hid (∀W,Calls Tryz.prog 75 #[.agg (aPf f),.agg (aPf ⟨[],[]⟩)] W fun e w'=>e=.returned (.int .i64 (bG (val f.n*lU []) (val []*lU f.d)))∧Below W.heap.size W w'):=fun W=>aZr f ⟨[],[]⟩ W (by rw[hQ];exact h0) (by decide) (by omega) (by omega) (by simp) (by simp) (by rw[hP];omega) (by decide) (by rw[hQ];omega) (by decide) (by show (_*lU []).natAbs<_;rw[uA,Int.mul_one,hP];omega) (by show (0*_:Int).natAbs<_;rw[Int.zero_mul];decide)
 have HN:=Hd (fun W=>aZu (aJ q) [49] W (by have:=aXi hqa;omega) (by simp) (by rw[bE];exact hqa) (by rw[jB];decide));rw[bE,jB] at HN;have HH:=Hd (fun W=>aYm [49] [50] W (by simp) (by simp) (by rw[jB];decide) (by rw[aZm];decide) (by rw[aZm];decide));rw[jB,aZm,aZo.1,aZo.2] at HH;have HE:=Hd (fun W=>bAt (aJ q) W (by have:=aXi hqa;omega) (by rw[bE];have:=aXi hqa;omega));rw[bE] at HE;have hz:(bG (eT r Q) 0==0)=decide (r=0):=by
  have hrz:=bAi (r:=r) h0
  by_cases hr:r=0
  ·have e:=hrz.2 hr;rw[e,decide_eq_true hr];rfl
  ·have e:eT r Q≠0:=fun h=>hr (hrz.1 h)
   rw[decide_eq_false hr];unfold bG;split
   ·decide
   ·rw[if_pos (by omega)];decide
 have HRV:=Hd hrv;have HRR:=Hd (And.intro hr0 (And.intro hr1 h0));have HFL:Hid (∀W,Calls Tryz.prog 108 #[.agg (aPf f)] W fun e w'=>e=.returned (.string ⟨(aJ q).toArray⟩)∧Below W.heap.size W w'):=HF.out;have HOO:Hid (∀W,Calls Tryz.prog 61 #[.string ⟨(aJ q).toArray⟩] W fun e w'=>e=.returned (.agg (aPf ⟨aJ q,[]⟩))∧Below W.heap.size W w'):=HO.out;have HZZ:Hid (∀W,Calls Tryz.prog 61 #[.string ⟨#[]⟩] W fun e w'=>e=.returned (.agg (aPf ⟨[],[]⟩))∧Below W.heap.size W w'):=HZ.out;have HHH:Hid (∀W,Calls Tryz.prog 111 #[.string ⟨#[49]⟩,.string ⟨#[50]⟩] W fun e w'=>e=.returned (.tuple #[.agg (aPf ⟨[49],[50]⟩),.int .i64 0])∧Below W.heap.size W w'):=HH.out;have HAA:Hid (∀W,Calls Tryz.prog 110 #[.string ⟨(aJ q).toArray⟩,.string ⟨#[49]⟩] W fun e w'=>e=.returned (.string ⟨(aJ (q+1)).toArray⟩)∧Below W.heap.size W w'):=HN.out;have HSF:Hid (∀f,(Tryz.prog.info? 28).map (·.size)=some (aPf f).size):=fun _=>aPp
 have HONF:Hid (∀f,(aPf f).all (·.oneCell')=true):=aP0;have HSZ:Hid (∀f,Z2.size=(aPf f).size):=fun _=>rfl
 have KF0:=Hd (aP.new0 w (aPf f) 28);have HB0:=Hd (aB w (.cells (aPf f) 28));generalize bG (val f.n*lU []) (val []*lU f.d)=z3 at *;generalize bG (eT r Q) 0=z1 at *;have hc2:(r+r<Q∧bG (r+r) Q = -1)∨(r+r=Q∧bG (r+r) Q=0)∨(Q<r+r∧bG (r+r) Q=1):=by
  unfold bG;rcases Int.lt_trichotomy (r+r) Q with h|h|h
  ·exact .inl ⟨h,if_pos h⟩
  ·exact .inr (.inl ⟨h,by rw[if_neg (by omega),if_neg (by omega)]⟩)
  ·exact .inr (.inr ⟨h,by rw[if_neg (by omega),if_pos h]⟩)
 generalize bG (r+r) Q=z2 at *;generalize(⟨aJ (eT r Q),nD (fT r Q)⟩:bZ)=rs at *;generalize(⟨aJ q,[]⟩:bZ)=os at *;generalize(⟨[49],[50]⟩:bZ)=hf at *;generalize(⟨[],[]⟩:bZ)=zf at *;generalize aQ3 P Q=rv at *;clear hn hd h0 b1 b2 hbig hr0 hr1 hpq hq hrv HF hP hQ hQq hqa hra hda hdp hdd HO HZ HH HN hrb hlr hld;go_enter Tryz.func59,Tryz.ntmps59;go_wp2_with (refine wpList_load_row rfl 28 _ rfl w.heap.size rfl 28 (aPf f) (0,0) _ KF0.out.2 Tryz.underlying28 rfl (HSF.out f) ?_);refine(HFL.out _).mono ?_;rintro e w1 ⟨rfl,hb⟩;have HB1:=Hd (aA HB0.out hb);have KF1:=Hd (KF0.out.below hb);clear hb HB0 KF0 HFL;go_wp2_with fail;refine bAh (C:=⟨w1.drewN 1,w.heap.size,f,aJ q,os,rs⟩) ?M rfl rfl rfl ?hk ?_
 case M=>exact⟨rfl,rfl,rfl,KF1.out.1,HOO.out,HS.out⟩
 case hk=>exact⟨KF1.out.1,KF1.out.2⟩
 intro g W hg KR KF2 hbW;have HB2:=Hd (aA HB1.out ((aD (Br _ w1) 1).trans hbW));have KR2:=Hd KR;have KF2:=Hd KF2;clear hg KR hbW HB1 KF1 HOO HS;simp only[iZ,bA7,List.foldl,List.setIfInBounds_toArray,List.set_cons_zero,List.set_cons_succ,RtC.val];go_wp2_with fail;refine(HZZ.out _).mono ?_;rintro e w3 ⟨rfl,hb⟩;have HB3:=Hd (aA HB2.out hb);have KF3:=Hd (KF2.out.below hb);have KR3:=Hd (KR2.out.below hb);have HN3:=Hd (aB w3 (.cells Z2 28));have KN3:=Hd (aP.new0 w3 Z2 28);clear hb HB2 KF2 KR2 HZZ;go_wp2_with (first|(refine aOw rfl 28 _ _ rfl w3.heap.size rfl (aPf zf) rfl KN3.out (HSF.out _) (HSZ.out _) (HONF.out _) ?_;intro w4 kx bx _ _;have hb8:=HN3.out.trans (bx _ (Nl _));have HB4:=Hd (aA HB3.out hb8);have KF4:=Hd (KF3.out.below hb8);have KR4:=Hd (KR3.out.below hb8);have KZ4:=Hd kx;clear kx bx hb8)|(refine wpList_load_row rfl 28 _ rfl g rfl 28 (aPf rs) (0,0) _ KR4.out.2 Tryz.underlying28 rfl (HSF.out _) ?_;simp only[pS])|(refine wpList_load_row rfl 28 _ rfl w3.heap.size rfl 28 (aPf zf) (0,0) _ KZ4.out.2 Tryz.underlying28 rfl (HSF.out _) ?_;simp only[pS]));refine(HC1.out _).mono ?_;rintro e w5 ⟨rfl,hb⟩;have HB5:=Hd (aA HB4.out hb);have KF5:=Hd (KF4.out.below hb);have KR5:=Hd (KR4.out.below hb);have KZ5:=Hd (KZ4.out.below hb);clear hb HB3 KF3 KR3 HN3 KN3 HB4 KF4 KR4 KZ4 HC1
 by_cases hr:r=0
 ·have hz1:(z1==0)=true:=by rw[hz];exact decide_eq_true hr
  have HV:Hid (rv=q):=by show _=_;have h1:=HRR.out.2.2;rw[HRV.out,if_neg (by rintro(h|⟨h,_⟩) <;> omega)]
  clear hz hc2 hr HC2 HC3 HE HHH HAA HRV;go_wp2_with fail;go_ret;exact⟨by rw[HV.out];rfl,HB5.out⟩
 ·have hz1:(z1==0)=false:=by rw[hz];exact decide_eq_false hr
  clear hz;go_wp2_with fail;refine(HAA.out _).mono ?_;rintro e w6 ⟨rfl,hb⟩;have HB6:=Hd (aA HB5.out hb);have KF6:=Hd (KF5.out.below hb);have KR6:=Hd (KR5.out.below hb);have KZ6:=Hd (KZ5.out.below hb);clear hb HB5 KF5 KR5 KZ5 HAA;go_wp2_with fail;refine(HHH.out _).mono ?_;rintro e w7 ⟨rfl,hb⟩;have HB7:=Hd (aA HB6.out hb);have KF7:=Hd (KF6.out.below hb);have KR7:=Hd (KR6.out.below hb);have KZ7:=Hd (KZ6.out.below hb);have HN7:=Hd (aB w7 (.cells Z2 28));have KN7:=Hd (aP.new0 w7 Z2 28);clear hb HB6 KF6 KR6 KZ6 HHH;go_wp2_with (first|(refine aOw rfl 28 _ _ rfl w7.heap.size rfl (aPf hf) rfl KN7.out (HSF.out _) (HSZ.out _) (HONF.out _) ?_;intro w8 kx bx _ _;have hb8:=HN7.out.trans (bx _ (Nl _));have HB8:=Hd (aA HB7.out hb8);have KF8:=Hd (KF7.out.below hb8);have KR8:=Hd (KR7.out.below hb8);have KZ8:=Hd (KZ7.out.below hb8);have KH8:=Hd kx;clear kx bx hb8)|(refine wpList_load_row rfl 28 _ rfl g rfl 28 (aPf rs) (0,0) _ KR8.out.2 Tryz.underlying28 rfl (HSF.out _) ?_;simp only[pS])|(refine wpList_load_row rfl 28 _ rfl w7.heap.size rfl 28 (aPf hf) (0,0) _ KH8.out.2 Tryz.underlying28 rfl (HSF.out _) ?_;simp only[pS]));refine(HC2.out _).mono ?_;rintro e w9 ⟨rfl,hb⟩;have HB9:=Hd (aA HB8.out hb);have KF9:=Hd (KF8.out.below hb);have KZ9:=Hd (KZ8.out.below hb);clear hb HB7 KF7 KR7 KZ7 HN7 KN7 HB8 KF8 KR8 KZ8 KH8 HC2;go_wp2_with (first|(refine wpList_load_row rfl 28 _ rfl w.heap.size rfl 28 (aPf f) (0,0) _ KF9.out.2 Tryz.underlying28 rfl (HSF.out _) ?_;simp only[pS])|(refine wpList_load_row rfl 28 _ rfl w3.heap.size rfl 28 (aPf zf) (0,0) _ KZ9.out.2 Tryz.underlying28 rfl (HSF.out _) ?_;simp only[pS]));refine(HC3.out _).mono ?_;rintro e w10 ⟨rfl,hb⟩;have HB10:=Hd (aA HB9.out hb);clear hb HB9 KF9 KZ9 HC3 HSF HONF HSZ;rcases hc2 with⟨h,rfl⟩|⟨h,rfl⟩|⟨h,rfl⟩
  ·have HV:Hid (rv=q):=by show _=_;rw[HRV.out,if_neg (by rintro(h'|⟨h',_⟩) <;> omega)]
   clear h hr HE HRV;go_wp2_with fail;go_ret;exact⟨by rw[HV.out];rfl,HB10.out⟩
  ·by_cases hev:q%2=0
   ·have HV:Hid (rv=q):=by show _=_;rw[HRV.out,if_neg (by rintro(h'|⟨_,h'⟩);omega;exact h' hev)]
    rw[decide_eq_true hev] at HE;clear h hr HRV hev;go_wp2_with fail;refine(HE.out _).mono ?_;rintro e w11 ⟨rfl,hb⟩;have HB11:=Hd (aA HB10.out hb);clear hb;go_wp2_with fail;go_ret;exact⟨by rw[HV.out];rfl,HB11.out⟩
   ·have HV:Hid (rv=q+1):=by show _=_;rw[HRV.out,if_pos (.inr ⟨h,hev⟩)]
    rw[decide_eq_false hev] at HE;clear h hr HRV hev;go_wp2_with fail;refine(HE.out _).mono ?_;rintro e w11 ⟨rfl,hb⟩;have HB11:=Hd (aA HB10.out hb);clear hb;go_wp2_with fail;go_ret;exact⟨by rw[HV.out];rfl,HB11.out⟩
  ·have HV:Hid (rv=q+1):=by show _=_;rw[HRV.out,if_pos (.inl h)]
   clear h hr HE HRV;go_wp2_with fail;go_ret;exact⟨by rw[HV.out];rfl,HB10.out⟩
end
section
open Go Go.RowKit Num
noncomputable def bBh:Array Oper:=(Tryz.f20.body.bind (jE 1)).getD #[]
def bA6:List (Nat×Nat):=[(0,5),(1,6),(2,7),(3,8),(4,9),(5,4)]
structure RvC where
 W0:World
 b:Nat
 p:bZ
 q:List UInt8
 o:bZ
 m:bZ
 v:List UInt8
def RvC.val(C:RvC)(_:Unit):Nat→Value
 |0=>.agg (aPf C.p)
 |1=>.string ⟨C.q.toArray⟩
 |2=>.agg (aPf C.o)
 |3=>.agg (aPf C.m)
 |4=>.string ⟨C.v.toArray⟩
 |_=>.string ⟨C.v.toArray⟩
def RvC.gg(C:RvC)(_:Unit)(_:Array Bool)(W:World):Prop:=Below C.W0.heap.size C.W0 W
structure RvM(C:RvC)(t0:Array Value):Prop where
 sz:t0.size=10
 t2:t0[2]?=some (.pointer (some ⟨C.b,0,none⟩))
 t1:t0[1]?=some (.string ⟨C.q.toArray⟩)
 k2:aP C.W0 C.b (aPf C.p) 28
 hO:∀W,Calls Tryz.prog 61 #[.string ⟨C.q.toArray⟩] W fun e w'=>e=.returned (.agg (aPf C.o))∧Below W.heap.size W w'
 hM:∀W,Calls Tryz.prog 60 #[.agg (aPf C.p),.agg (aPf C.o)] W fun e w'=>e=.returned (.agg (aPf C.m))∧Below W.heap.size W w'
 hR:∀W,Calls Tryz.prog 59 #[.agg (aPf C.m),.int .i64 1] W fun e w'=>e=.returned (.string ⟨C.v.toArray⟩)∧Below W.heap.size W w'
section
variable {C:RvC}{t0:Array Value}{Q:Exit→Act→World→Prop}
theorem bAg(M:RvM C t0){a:Act}{w:World}(hdf:a.defers=[])(ht:a.tmps=t0)(hw:w.drewN 1=C.W0)
  (hQ:∀W,Below C.W0.heap.size C.W0 W→Q .normal { tmps:=iZ (C.val ()) bA6 t0,defers:=[] } W):(Code.region 1 bBh true).wp Tryz.prog Q a w:=by
 have hsz:bBh.size=6:=by kernel_rfl
 refine eV (ds:=bA6) (val:=C.val) (G:=C.gg) (by kernel_rfl) (by kernel_rfl) (by decide) (fun p hp=>?_) (by kernel_rfl) ?_ (γ:=()) hdf ht (by rw[hw];exact Br _ _) (fun _ _ W _ hg=>hQ W hg)
 ·rw[M.sz];have:∀p,p∈bA6→p.2<10:=by decide
  exact this p hp
 ·intro γ l a w i H hr;cases γ;have hi:i<6:=by
   obtain⟨_,o,ho,_⟩:=mem_ready.1 hr;have:=(Ai.1 ho).1;rw[hsz] at this;exact this
  have t2:=H.low (s:=2) (by decide) M.t2;have t1:=H.low (s:=1) (by decide) M.t1;have hb:Below C.W0.heap.size C.W0 w:=H.g
  match i,hi,hr with
  |0,_,hr =>
   exact aH (X:=.load 28 (.tmp 2)) (v:=.agg (aPf C.p)) (by kernel_rfl) (fun o h=>by exact aW h (oC t2) (gR (M.k2.below hb)) Tryz.underlying28 rfl aPp) rfl hb
  |1,_,hr =>
   exact aH (X:=.move (.tmp 1)) (v:=.string ⟨C.q.toArray⟩) (by kernel_rfl) (fun o h=>by simp[execOp,h,t1,go_sem]) rfl hb
  |2,_,hr =>
   have v1:a.tmps[6]?=some (.string ⟨C.q.toArray⟩):=H.dep hr 1 6 (by kernel_rfl) ⟨rfl,by decide⟩;refine gA (f:=61) (lb:=#[]) (c:=.func 61) (args:=#[.tmp 6]) (ts:=#[26]) (vs:=#[.string ⟨C.q.toArray⟩]) (by kernel_rfl) rfl (enters_of Tryz.func61 (by kernel_rfl) rfl) (by simp[Act.eval,v1]) ((M.hO w).mono ?_);rintro e w' ⟨rfl,hb'⟩;exact⟨_,(),rfl,rfl,fun _ _=>rfl,aA hb hb'⟩
  |3,_,hr =>
   have v0:a.tmps[5]?=some (.agg (aPf C.p)):=H.dep hr 0 5 (by kernel_rfl) ⟨rfl,by decide⟩;have v2:a.tmps[7]?=some (.agg (aPf C.o)):=H.dep hr 2 7 (by kernel_rfl) ⟨rfl,by decide⟩;refine gA (f:=60) (lb:=#[]) (c:=.func 60) (args:=#[.tmp 5,.tmp 7]) (ts:=#[28,28]) (vs:=#[.agg (aPf C.p),.agg (aPf C.o)]) (by kernel_rfl) rfl (enters_of Tryz.func60 (by kernel_rfl) rfl) (by simp[Act.eval,v0,v2]) ((M.hM w).mono ?_);rintro e w' ⟨rfl,hb'⟩;exact⟨_,(),rfl,rfl,fun _ _=>rfl,aA hb hb'⟩
  |4,_,hr =>
   have v3:a.tmps[8]?=some (.agg (aPf C.m)):=H.dep hr 3 8 (by kernel_rfl) ⟨rfl,by decide⟩;refine gA (f:=59) (lb:=#[]) (c:=.func 59) (args:=#[.tmp 8,.const (.int .i64 1)]) (ts:=#[28,3]) (vs:=#[.agg (aPf C.m),.int .i64 1]) (by kernel_rfl) rfl (enters_of Tryz.func59 (by kernel_rfl) rfl) (by simp[Act.eval,v3]) ((M.hR w).mono ?_);rintro e w' ⟨rfl,hb'⟩;exact⟨_,(),rfl,rfl,fun _ _=>rfl,aA hb hb'⟩
  |5,_,hr =>
   have v4:a.tmps[9]?=some (.string ⟨C.v.toArray⟩):=H.dep hr 4 9 (by kernel_rfl) ⟨rfl,by decide⟩;exact aH (X:=.assign (.tmp 9)) (v:=.string ⟨C.v.toArray⟩) (by kernel_rfl) (fun o h=>by simp[execOp,h,v4,go_sem]) rfl hb
  |n+6,h,_=>exact absurd h (by omega)
end
theorem aZ7(p:bZ)(q:List UInt8)(w:World)(hn:p.n.length≤13)(hd:p.d.length≤13)(hq:q.length≤13):
  Calls Tryz.prog 20 #[.agg (aPf p),.string ⟨q.toArray⟩] w fun e w'=>e=.returned (.string ⟨(aJ (aRq p.n p.d q)).toArray⟩)∧Below w.heap.size w w':=by
 have vn:(val p.n).natAbs<10000000000000:=Nat.lt_of_lt_of_le (lO hn) (by decide);have vq:(val q).natAbs<10000000000000:=Nat.lt_of_lt_of_le (lO hq) (by decide);have vd:(lU p.d).natAbs<10000000000000:=Ew (Nat.lt_of_lt_of_le (lO hd) (by decide)) (by decide);have hb1:(10000000000000*10000000000000:Nat)<1000000000000000000000000000000:=by decide
 have hb2:(1000000000000000000000000000000:Nat)*10000000000=big:=by decide
 have hnq:(val p.n*val q).natAbs<100000000000000000000000000:=by rw[Int.natAbs_mul];exact Nat.lt_of_lt_of_le (Nat.mul_lt_mul'' vn vq) (by decide)
 have hqb:(val q).natAbs<big:=by omega
 have hD:=qQ p.d;have hcq:=aXi hqb;have hO:∀W,Calls Tryz.prog 61 #[.string ⟨q.toArray⟩] W fun e w'=>e=.returned (.agg (aPf ⟨aJ (val q),[]⟩))∧Below W.heap.size W w':=fun W=>aZp q W (by omega) hqb
 have hM:∀W,Calls Tryz.prog 60 #[.agg (aPf p),.agg (aPf ⟨aJ (val q),[]⟩)] W fun e w'=>e=.returned (.agg (aPf (mkF (val p.n*val q) (lU p.d))))∧Below W.heap.size W w':=fun W=>by
  have h:=bAs p.n p.d (aJ (val q)) [] W (by omega) (by omega) (by omega) (by simp) (by omega) (by rw[bE];exact hqb) (by omega) (by decide) (by rw[bE];omega) (by rw[uA,Int.mul_one];omega);have e1:aQj p.n (aJ (val q))=val p.n*val q:=by unfold aQj;rw[bE]
  have e2:aQk p.d []=lU p.d:=by unfold aQk;rw[uA,Int.mul_one]
  rw[e1,e2] at h;exact h
 have hra:=Sy (N:=val p.n*val q) hD;have hda:=Tk (N:=val p.n*val q) hD;have hdp:=aKn (N:=val p.n*val q) hD;have hl1:=aXi (z:=eT (val p.n*val q) (lU p.d)) (by omega);have hl2:=Uz (aXi (z:=fT (val p.n*val q) (lU p.d)) (by omega));have hR:∀W,Calls Tryz.prog 59 #[.agg (aPf (mkF (val p.n*val q) (lU p.d))),.int .i64 1] W fun e w'=>e=.returned (.string ⟨(aJ (aRq p.n p.d q)).toArray⟩)∧Below W.heap.size W w':=fun W=>by
  have h:=aZw (mkF (val p.n*val q) (lU p.d)) W (by show (aJ _).length≤_;omega) (by show (nD _).length≤_;omega) (by rw[aLy hD];exact hdp) (by rw[aLx];omega) (by rw[aLy hD];omega);rw[aLx,aLy hD] at h;exact h
 have HO:=Hd hO;have HM:=Hd hM;have HR:=Hd hR;clear hO hM hR hra hda hdp hl1 hl2 hD hcq hqb hnq hb1 hb2 vn vq vd;generalize aJ (aRq p.n p.d q)=v at *;generalize mkF (val p.n*val q) (lU p.d)=m at *;generalize(⟨aJ (val q),[]⟩:bZ)=o at *;have HB0:=Hd (aB w (.cells (aPf p) 28));have KX:=Hd (aP.new0 w (aPf p) 28);go_enter Tryz.func20,Tryz.ntmps20;go_wp2_with fail;refine bAg (C:=⟨(w.alloc (.cells (aPf p) 28)).drewN 1,w.heap.size,p,q,o,m,v⟩) ?M rfl rfl rfl ?_
 case M=>exact⟨rfl,rfl,rfl,⟨KX.out.1,KX.out.2⟩,HO.out,HM.out,HR.out⟩
 intro W hbW;have HBW:=Hd (aA (aD HB0.out 1) hbW);clear hbW HO HM HR HB0 KX;simp only[iZ,bA6,List.foldl,List.setIfInBounds_toArray,List.set_cons_zero,List.set_cons_succ,RvC.val];go_wp2;go_ret;exact⟨rfl,HBW.out⟩
end
end Go.Proofs.YtejkibnaidiklaaGreatDoor
