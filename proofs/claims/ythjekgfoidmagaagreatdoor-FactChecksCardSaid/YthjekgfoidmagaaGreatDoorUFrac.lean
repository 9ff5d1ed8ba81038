/- Frac2 Frac3 -/
import Derived.Test.YthjekgfoidmagaaGreatDoorUGcd
import Derived.Laws.EntriesVeiled
set_option maxHeartbeats 16000000
set_option maxRecDepth 100000
namespace Go.Proofs.YthjekgfoidmagaaGreatDoor
open Tryz
section
open Go.RowKit Num
def Cu(n d:List UInt8):Bool:=n==aJ (eT (val n) (lU d))&&d==nD (fT (val n) (lU d))
theorem qR{d:List UInt8}{K:Nat}(hK:1<=K)(h:d.length<=K):(jN d).length<=K:=by unfold jN;split;simpa using hK;exact h
theorem lE{l m:List UInt8}{K L:Nat}(hl:l.length<=K)(hm:m.length<=L)(hK:1<=K):(aJ (val l*val m)).length<=K+L+1:=by
 refine gC (by omega) ?_;rw[Int.natAbs_mul,Nat.pow_add];have h1:=lO hl;have h2:=lO hm;rcases Nat.eq_zero_or_pos (val l).natAbs with h|h
 ·rw[h,Nat.zero_mul];exact Nat.mul_pos (by omega) (by omega)
 ·exact Nat.lt_of_lt_of_le (Nat.mul_lt_mul_of_pos_left h2 h) (Nat.mul_le_mul_right _ (by omega))
theorem Xj(a b c d:List UInt8)(bm:Nat)(T:TypeId)(w:World)(hE:iE w)(ha:a.length<=400)(hb:b.length<=400)(hc:c.length<=400)(hd:d.length<=400)(hB:aP w bm #[.func (.func 291) #[] #[]] T):
  Calls prog 293 #[.string ⟨a.toArray⟩,.string ⟨b.toArray⟩,.string ⟨c.toArray⟩,.string ⟨d.toArray⟩,.pointer (some ⟨bm,0,none⟩)] w fun e w'=>e=.returned (.tuple #[.string ⟨(aJ (val a*val d-val c*val b)).toArray⟩,.string ⟨(aJ (val b*val d)).toArray⟩])/\Below w.heap.size w w':=by
 have HE:=Hd hE;have m1:=lE ha hd (by decide);have m2:=lE hc hb (by decide);have H1:=Hd (fun W hE=>Fq a d W hE (by omega) (by omega));have H2:=Hd (fun W hE=>Fq c b W hE (by omega) (by omega));have H3:=Hd (fun W hE=>aAd (aJ (val a*val d)) (aJ (val c*val b)) W hE (by omega) (by omega));have H4:=Hd (fun W hE=>Fq b d W hE (by omega) (by omega));rw[bE,bE] at H3;generalize aJ (val a*val d-val c*val b)=r1 at *;generalize aJ (val a*val d)=r2 at *;generalize aJ (val c*val b)=r3 at *;generalize aJ (val b*val d)=r4 at *;clear hE m1 m2;have k0:=hB.cell 0;go_enter func293,ntmps293;go_wp2_with fail;have HBc:Below w.heap.size w w.drew:=aD (Br _ _) 1;have KB:aP w.drew bm #[.func (.func 291) #[] #[]] T:=hB;clear hB k0;refine wp_region_held_drew (S:=fun W=>W.cell? ⟨bm,0,none⟩=some (.func (.func 291) #[] #[])) (by kernel_rfl) ?hS1 (fun hHeld=>?hR1)
 case hS1=>exact KB.cell 0
 refine In 0 (some 11) rfl rfl ?_;simp only[pS];refine In 1 (some 12) rfl rfl ?_;simp only[pS];refine In 2 (some 13) rfl rfl ?_;simp only[pS];refine In 4 (some 15) rfl rfl ?_;simp only[pS];refine In 5 (some 16) rfl rfl ?_;simp only[pS];refine In 6 (some 17) rfl rfl ?_;simp only[pS];refine In 9 (some 20) rfl rfl ?_;simp only[pS];refine In 10 (some 21) rfl rfl ?_;simp only[pS];refine In 11 (some 22) rfl rfl ?_;simp only[pS];refine rd1 3 rfl (fun K hK=>?_);go_simp;go_at_call 291;refine(H1.out _ (HE.out.below HBc)).mono ?_;rintro e wn ⟨rfl,hbn⟩;replace HBc:=aA HBc hbn;replace KB:=KB.below hbn;clear hbn;go_wp2_with fail;refine hK.out _ _ ?hS11 (fun hHeld=>?hR11)
 case hS11=>exact KB.cell 0
 try simp only[pS]
 refine rd1 7 rfl (fun K hK=>?_);go_simp;go_at_call 291;refine(H2.out _ (HE.out.below HBc)).mono ?_;rintro e wn ⟨rfl,hbn⟩;replace HBc:=aA HBc hbn;replace KB:=KB.below hbn;clear hbn;go_wp2_with fail;refine hK.out _ _ ?hS12 (fun hHeld=>?hR12)
 case hS12=>exact KB.cell 0
 try simp only[pS]
 refine rd1 8 rfl (fun K hK=>?_);go_simp;go_at_call 294;refine(H3.out _ (HE.out.below HBc)).mono ?_;rintro e wn ⟨rfl,hbn⟩;replace HBc:=aA HBc hbn;replace KB:=KB.below hbn;clear hbn;go_wp2_with fail;refine hK.out _ _ ?hS13 (fun hHeld=>?hR13)
 case hS13=>exact KB.cell 0
 try simp only[pS]
 refine rd1 12 rfl (fun K hK=>?_);go_simp;go_at_call 291;refine(H4.out _ (HE.out.below HBc)).mono ?_;rintro e wn ⟨rfl,hbn⟩;replace HBc:=aA HBc hbn;replace KB:=KB.below hbn;clear hbn;go_wp2_with fail;refine hK.out _ _ ?hS14 (fun hHeld=>?hR14)
 case hS14=>exact KB.cell 0
 try simp only[pS]
 refine In 13 (some 9) rfl rfl ?_;simp only[pS];refine In 14 (some 10) rfl rfl ?_;simp only[pS];refine wpAnyH_done (by kernel_rfl) ?_ _;go_wp2;go_ret2;exact⟨rfl,HBc⟩
theorem oB(n d:List UInt8)(w:World)(hE:iE w)(hn:n.length<=2000)(hd:d.length<=2000):
  Calls prog 141 #[.agg #[.string ⟨n.toArray⟩,.string ⟨d.toArray⟩]] w fun e w'=>e=.returned (.int .i64 (if Cu n d=true then 0 else 1))/\Below w.heap.size w w':=by
 have HE:=Hd hE;have HP:=Hd (fun W=>rD n d W (by omega));have HM:=Hd (fun W hE=>zH n (jN d) W hE hn (qR (by decide) hd) (by rw[iH];exact qQ d));rw[iH] at HM;unfold Cu;generalize aJ (eT (val n) (lU d))=rn at *;generalize nD (fT (val n) (lU d))=rd at *;generalize jN d=ds at *;clear hE;have HB0:=Hd (aP.new w #[.string ⟨n.toArray⟩,.string ⟨d.toArray⟩] 25 1);rcases(show (n=rn/\d=rd)∨(n=rn/\¬ d=rd)∨¬ n=rn by by_cases h:n=rn <;> by_cases h':d=rd <;> simp[h,h']) with⟨h1,h2⟩|⟨h1,h2⟩|h1
 ·subst h1 h2;rw[if_pos (by simp)];go_enter func141,ntmps141;go_wp2_with fail;have HBc:=aD (aB w (.cells #[.string ⟨n.toArray⟩,.string ⟨d.toArray⟩] 25)) 1;have KB:=HB0.out;refine wp_region_held_drew (S:=fun W=>W.cell? ⟨w.heap.size,0,none⟩=some (.string ⟨n.toArray⟩)/\W.cell? ⟨w.heap.size,1,none⟩=some (.string ⟨d.toArray⟩)) (by kernel_rfl) ?hS17 (fun hHeld=>?hR17)
  case hS17=>exact⟨KB.cell 0,KB.cell 1⟩
  refine In 0 (some 3) rfl rfl ?_;simp only[pS];refine In 1 (some 4) rfl rfl ?_;simp only[pS];refine rd1 2 rfl (fun K hK=>?_);go_simp;go_at_call 205;refine(HP.out _).mono ?_;rintro e wn ⟨rfl,hbn⟩;replace HBc:=aA HBc hbn;replace KB:=KB.below hbn;clear hbn;go_wp2_with fail;refine hK.out _ _ ?hS20 (fun hHeld=>?hR20)
  case hS20=>exact⟨KB.cell 0,KB.cell 1⟩
  try simp only[pS]
  refine In 3 (some 6) rfl rfl ?_;simp only[pS];refine In 4 (some 7) rfl rfl ?_;simp only[pS];refine rd1 5 rfl (fun K hK=>?_);go_simp;go_at_call 207;refine(HM.out _ (HE.out.below HBc)).mono ?_;rintro e wn ⟨rfl,hbn⟩;replace HBc:=aA HBc hbn;replace KB:=KB.below hbn;clear hbn;go_wp2_with fail;refine hK.out _ _ ?hS23 (fun hHeld=>?hR23)
  case hS23=>exact⟨KB.cell 0,KB.cell 1⟩
  try simp only[pS]
  refine In 6 (some 9) rfl rfl ?_;simp only[pS];refine wpAnyH_done (by kernel_rfl) ?_ _;go_wp2;go_ret;exact⟨rfl,HBc⟩
 ·subst h1;rw[if_neg (by simp[h2])];go_enter func141,ntmps141;go_wp2_with fail;have HBc:=aD (aB w (.cells #[.string ⟨n.toArray⟩,.string ⟨d.toArray⟩] 25)) 1;have KB:=HB0.out;refine wp_region_held_drew (S:=fun W=>W.cell? ⟨w.heap.size,0,none⟩=some (.string ⟨n.toArray⟩)/\W.cell? ⟨w.heap.size,1,none⟩=some (.string ⟨d.toArray⟩)) (by kernel_rfl) ?hS25 (fun hHeld=>?hR25)
  case hS25=>exact⟨KB.cell 0,KB.cell 1⟩
  refine In 0 (some 3) rfl rfl ?_;simp only[pS];refine In 1 (some 4) rfl rfl ?_;simp only[pS];refine rd1 2 rfl (fun K hK=>?_);go_simp;go_at_call 205;refine(HP.out _).mono ?_;rintro e wn ⟨rfl,hbn⟩;replace HBc:=aA HBc hbn;replace KB:=KB.below hbn;clear hbn;go_wp2_with fail;refine hK.out _ _ ?hS28 (fun hHeld=>?hR28)
  case hS28=>exact⟨KB.cell 0,KB.cell 1⟩
  try simp only[pS]
  refine In 3 (some 6) rfl rfl ?_;simp only[pS];refine In 4 (some 7) rfl rfl ?_;simp only[pS];refine rd1 5 rfl (fun K hK=>?_);go_simp;go_at_call 207;refine(HM.out _ (HE.out.below HBc)).mono ?_;rintro e wn ⟨rfl,hbn⟩;replace HBc:=aA HBc hbn;replace KB:=KB.below hbn;clear hbn;go_wp2_with fail;refine hK.out _ _ ?hS31 (fun hHeld=>?hR31)
  case hS31=>exact⟨KB.cell 0,KB.cell 1⟩
  try simp only[pS]
  refine In 6 (some 9) rfl rfl ?_;simp only[pS];refine wpAnyH_done (by kernel_rfl) ?_ _;go_wp2;go_ret;exact⟨rfl,HBc⟩
 ·rw[if_neg (by simp[h1])];go_enter func141,ntmps141;go_wp2_with fail;have HBc:=aD (aB w (.cells #[.string ⟨n.toArray⟩,.string ⟨d.toArray⟩] 25)) 1;have KB:=HB0.out;refine wp_region_held_drew (S:=fun W=>W.cell? ⟨w.heap.size,0,none⟩=some (.string ⟨n.toArray⟩)/\W.cell? ⟨w.heap.size,1,none⟩=some (.string ⟨d.toArray⟩)) (by kernel_rfl) ?hS33 (fun hHeld=>?hR33)
  case hS33=>exact⟨KB.cell 0,KB.cell 1⟩
  refine In 0 (some 3) rfl rfl ?_;simp only[pS];refine In 1 (some 4) rfl rfl ?_;simp only[pS];refine rd1 2 rfl (fun K hK=>?_);go_simp;go_at_call 205;refine(HP.out _).mono ?_;rintro e wn ⟨rfl,hbn⟩;replace HBc:=aA HBc hbn;replace KB:=KB.below hbn;clear hbn;go_wp2_with fail;refine hK.out _ _ ?hS36 (fun hHeld=>?hR36)
  case hS36=>exact⟨KB.cell 0,KB.cell 1⟩
  try simp only[pS]
  refine In 3 (some 6) rfl rfl ?_;simp only[pS];refine In 4 (some 7) rfl rfl ?_;simp only[pS];refine rd1 5 rfl (fun K hK=>?_);go_simp;go_at_call 207;refine(HM.out _ (HE.out.below HBc)).mono ?_;rintro e wn ⟨rfl,hbn⟩;replace HBc:=aA HBc hbn;replace KB:=KB.below hbn;clear hbn;go_wp2_with fail;refine hK.out _ _ ?hS39 (fun hHeld=>?hR39)
  case hS39=>exact⟨KB.cell 0,KB.cell 1⟩
  try simp only[pS]
  refine In 6 (some 9) rfl rfl ?_;simp only[pS];refine wpAnyH_done (by kernel_rfl) ?_ _;go_wp2;go_ret;exact⟨rfl,HBc⟩
end
section
open Go.RowKit Num
theorem zD(w:World):
  Calls prog 257 #[] w fun e w'=>∃f0 f2 f3 bm,e=.returned (.agg #[f0,.func (.func 293) #[] #[.pointer (some ⟨bm,0,none⟩)],f2,f3])/\(∃T,aP w' bm #[.func (.func 291) #[] #[]] T)/\Below w.heap.size w w':=by
 go_enter func257,ntmps257;go_wp2;refine bodyPost_ret (v:=.agg #[.func (.func 292) #[] #[.pointer (some ⟨w.heap.size+1,0,none⟩)],.func (.func 293) #[] #[.pointer (some ⟨w.heap.size+1,0,none⟩)],.func (.func 295) #[] #[.pointer (some ⟨w.heap.size+1,0,none⟩)],.func (.func 296) #[] #[.pointer (some ⟨w.heap.size+1,0,none⟩)]]) (by simp[results,results257,go_sem]) rfl ⟨_,_,_,w.heap.size+1,rfl,?_,?_⟩
 ·refine⟨163,?_⟩;have h:=aP.new0 (w.alloc (.cells #[.func (.func 292) #[] #[.pointer (some ⟨w.heap.size+1,0,none⟩)],.func (.func 293) #[] #[.pointer (some ⟨w.heap.size+1,0,none⟩)],.func (.func 295) #[] #[.pointer (some ⟨w.heap.size+1,0,none⟩)],.func (.func 296) #[] #[.pointer (some ⟨w.heap.size+1,0,none⟩)]] 258)) #[.func (.func 291) #[] #[]] 163;rw[World.size_alloc] at h;exact h
 ·exact((Br _ _).alloc (Nl _) _).alloc (by simp) _
def iY(n d n' d':List UInt8):Int:=val n*lU d'-val n'*lU d
def iG(d d':List UInt8):Int:=lU d*lU d'
theorem Dj(d d':List UInt8):iG d d'≠0:=Int.mul_ne_zero (qQ d) (qQ d')
theorem Rr(n d n' d':List UInt8)(bm:Nat)(T:TypeId)(w:World)(hE:iE w)(hn:n.length<=400)(hd:d.length<=400)(hn':n'.length<=400)(hd':d'.length<=400)(hB:aP w bm #[.func (.func 291) #[] #[]] T):
  Calls prog 256 #[.func (.func 293) #[] #[.pointer (some ⟨bm,0,none⟩)],.agg #[.string ⟨n.toArray⟩,.string ⟨d.toArray⟩],.agg #[.string ⟨n'.toArray⟩,.string ⟨d'.toArray⟩]] w fun e w'=>e=.returned (.agg #[.string ⟨(aJ (eT (iY n d n' d') (iG d d'))).toArray⟩,.string ⟨(nD (fT (iY n d n' d') (iG d d'))).toArray⟩])/\Below w.heap.size w w':=by
 have HE:=Hd hE;have HP1:=Hd (fun W=>rD n d W (by omega));have HP2:=Hd (fun W=>rD n' d' W (by omega));have dl:=qR (d:=d) (K:=400) (by decide) hd;have dl':=qR (d:=d') (K:=400) (by decide) hd';have HO:=Hd (fun W hE hB=>Xj n (jN d) n' (jN d') bm T W hE hn dl hn' dl' hB);have m1:=lE (l:=n) (m:=jN d') hn dl' (by decide);have m2:=lE (l:=n') (m:=jN d) hn' dl (by decide);have m3:=lE (l:=jN d) (m:=jN d') dl dl' (by decide);have m4:=Np (l:=aJ (val n*val (jN d'))) (m:=aJ (val n'*val (jN d))) (K:=801) (by omega) (by omega);rw[bE,bE] at m4;have HM:=Hd (fun W hE=>zH (aJ (val n*val (jN d')-val n'*val (jN d))) (aJ (val (jN d)*val (jN d'))) W hE (by omega) (by omega) (by rw[bE,iH,iH];exact Dj d d'));rw[bE,bE] at HM;rw[iH,iH] at HO HM;rw[show val n*lU d'-val n'*lU d=iY n d n' d' from rfl,show lU d*lU d'=iG d d' from rfl] at HO HM;generalize aJ (eT (iY n d n' d') (iG d d'))=rn at *;generalize nD (fT (iY n d n' d') (iG d d'))=rd at *;generalize aJ (iY n d n' d')=sn at *;generalize aJ (iG d d')=sd at *;generalize jN d=ds at *;generalize jN d'=ds' at *;have HBX:=Hd hB;clear hE m1 m2 m3 m4 dl dl' hB;go_enter func256,ntmps256;go_wp2_with fail;refine(HP1.out _).mono ?_;rintro e w1 ⟨rfl,hb1⟩;obtain⟨q1,q2,q3⟩:=Aw (n:=0) hb1;have k0:=aS q2 0;have k1:=aS q2 1;have HB1:=Hd (aA ((((Br w.heap.size w).alloc (Nl _) _).alloc (by simp) _).alloc (by simp;omega) _) hb1);have KR:aP w1 (w.heap.size+1+1) #[.string ⟨#[]⟩,.string ⟨#[]⟩] _:=⟨(Ai.1 q3).1,q3⟩
 have KR:=Hd KR;clear q1 q2 q3 hb1;go_wp2_with fail;refine(HP2.out _).mono ?_;rintro e w2 ⟨rfl,hb2⟩;have HB2:=Hd (aA HB1.out hb2);have KR2:=Hd (KR.out.below hb2);clear hb2 KR k0 k1 HB1;go_wp2_with fail;refine(HO.out _ (HE.out.below HB2.out) (HBX.out.below HB2.out)).mono ?_;rintro e w3 ⟨rfl,hb3⟩;have HB3:=Hd (aA HB2.out hb3);have KR3:=Hd (KR2.out.below hb3);clear hb3 KR2 HB2;go_wp2_with fail;refine(HM.out _ (HE.out.below HB3.out)).mono ?_;rintro e w4 ⟨rfl,hb4⟩;have HB4:=Hd (aA HB3.out hb4);have KR4:=KR3.out.below hb4;have k0:=KR4.cell 0;have k1:=KR4.cell 1;have f0:=aR KR4.2 0;have f1:=aR KR4.2 1;clear hb4 KR3 HB3 KR4;go_wp2;exact bodyPost_ret (v:=.agg #[.string ⟨rn.toArray⟩,.string ⟨rd.toArray⟩]) (by simp[results,results256,go_sem,k0,k1]) rfl ⟨rfl,(HB4.out.setCell (p:=⟨w.heap.size+1+1,0,none⟩) (by show _<=w.heap.size+1+1;omega) _).setCell (p:=⟨w.heap.size+1+1,1,none⟩) (by show _<=w.heap.size+1+1;omega) _⟩
theorem Hx(n d n' d':List UInt8)(w:World)(hE:iE w)(hn:n.length<=400)(hd:d.length<=400)(hn':n'.length<=400)(hd':d'.length<=400):
  Calls prog 206 #[.agg #[.string ⟨n.toArray⟩,.string ⟨d.toArray⟩],.agg #[.string ⟨n'.toArray⟩,.string ⟨d'.toArray⟩]] w fun e w'=>e=.returned (.agg #[.string ⟨(aJ (eT (iY n d n' d') (iG d d'))).toArray⟩,.string ⟨(nD (fT (iY n d n' d') (iG d d'))).toArray⟩])/\Below w.heap.size w w':=by
 have HE:=Hd hE;have HA:=Hd (fun bm T W hE hB=>Rr n d n' d' bm T W hE hn hd hn' hd' hB);generalize aJ (eT (iY n d n' d') (iG d d'))=rn at *;generalize nD (fT (iY n d n' d') (iG d d'))=rd at *;clear hE hn hd hn' hd';have hix:∀(f0 f1 f2 f3:Value) (W:World),(Instr.index 258 (.agg #[f0,f1,f2,f3]) (.int .i64 1)).run prog W=.ok f1 W:=fun _ _ _ _ _=>by kernel_rfl
 have HB:=Hd (fun o1 o2 o3 n=>show Below w.heap.size w ((((w.alloc o1).alloc o2).alloc o3).drewN n) from aD ((((Br _ _).alloc (Nl _) _).alloc (by simp) _).alloc (by simp;omega) _) n);go_enter func206,ntmps206;go_wp2_with fail;go_region_held3 (fun W=>W.cell? ⟨w.heap.size,0,none⟩=some (.string ⟨n.toArray⟩)/\W.cell? ⟨w.heap.size,1,none⟩=some (.string ⟨d.toArray⟩)/\W.cell? ⟨w.heap.size+1,0,none⟩=some (.string ⟨n'.toArray⟩)/\W.cell? ⟨w.heap.size+1,1,none⟩=some (.string ⟨d'.toArray⟩))
  (first|exact⟨j0,j1,j2,j3⟩|exact⟨k0,k1,k2,k3⟩|exact⟨(dM _ _ (by omega)).trans j0,(dM _ _ (by omega)).trans j1,(dM _ _ (by omega)).trans j2,(dM _ _ (by omega)).trans j3⟩|go_keep)
  (first|(go_at_call 257;refine(zD _).mono ?_;rintro e w1 ⟨f0,f2,f3,bm,rfl,⟨T,hBm⟩,hb1⟩;obtain⟨q1,q2,q3⟩:=Aw (n:=1) hb1;have k0:=aS q1 0;have k1:=aS q1 1;have k2:=aS q2 0;have k3:=aS q2 1;have Q3:=Hd (show aP w1 (w.heap.size+1+1) _ _ from⟨(Ai.1 q3).1,q3⟩);have l1:=(Ai.1 q1).1;have l2:=(Ai.1 q2).1;have HB1:=Hd (aA (HB.out _ _ _ 1) hb1);have HBM:=Hd hBm;clear q1 q2 q3 hb1 hBm)|(go_at_call 256;refine(HA.out bm T _ (HE.out.below HB1.out) HBM.out).mono ?_;rintro e w2 ⟨rfl,hb2⟩;have j0:=(hb2.cell (p:=⟨w.heap.size,0,none⟩) l1).trans k0;have j1:=(hb2.cell (p:=⟨w.heap.size,1,none⟩) l1).trans k1;have j2:=(hb2.cell (p:=⟨w.heap.size+1,0,none⟩) l2).trans k2;have j3:=(hb2.cell (p:=⟨w.heap.size+1,1,none⟩) l2).trans k3;have KR:=Q3.out.below hb2;have r0:=KR.cell 0;have r1:=KR.cell 1;have g0:=aR KR.2 0;have g1:=aR KR.2 1;have HB2:=Hd (aA HB1.out hb2);clear KR hb2))
 go_wp2;exact bodyPost_ret (v:=.agg #[.string ⟨rn.toArray⟩,.string ⟨rd.toArray⟩]) (by simp[results,results206,go_sem,r0,r1]) rfl ⟨rfl,(HB2.out.setCell (p:=⟨w.heap.size+1+1,0,none⟩) (by show _<=w.heap.size+1+1;omega) _).setCell (p:=⟨w.heap.size+1+1,1,none⟩) (by show _<=w.heap.size+1+1;omega) _⟩
theorem Uz{z:Int}{K:Nat}(h:(aJ z).length<=K):(nD z).length<=K:=by unfold nD;split;simp;exact h
theorem Sl{n d n' d':List UInt8}(hn:n.length<=400)(hd:d.length<=400)(hn':n'.length<=400)(hd':d'.length<=400):
  (aJ (eT (iY n d n' d') (iG d d'))).length<=804/\(nD (fT (iY n d n' d') (iG d d'))).length<=804:=by
 have dl:=qR (d:=d) (K:=400) (by decide) hd;have dl':=qR (d:=d') (K:=400) (by decide) hd';have m1:=lE (l:=n) (m:=jN d') hn dl' (by decide);have m2:=lE (l:=n') (m:=jN d) hn' dl (by decide);have m3:=lE (l:=jN d) (m:=jN d') dl dl' (by decide);have m4:=Np (l:=aJ (val n*val (jN d'))) (m:=aJ (val n'*val (jN d))) (K:=801) (by omega) (by omega);rw[bE,bE,iH,iH] at m4;rw[iH,iH] at m3;refine⟨uE (K:=803) (by decide) (Sy (Dj d d')) (bE _).symm m4,Uz (uE (K:=803) (by decide) (Tk (Dj d d')) (bE _).symm (show (aJ (iG d d')).length<=803 by unfold iG;omega))⟩
theorem fB(n d n' d':List UInt8)(w:World)(hE:iE w)(hn:n.length<=400)(hd:d.length<=400)(hn':n'.length<=400)(hd':d'.length<=400):
  Calls prog 140 #[.agg #[.string ⟨n.toArray⟩,.string ⟨d.toArray⟩],.agg #[.string ⟨n'.toArray⟩,.string ⟨d'.toArray⟩]] w fun e w'=>e=.returned (.int .i64 (bG (eT (iY n d n' d') (iG d d')) 0))/\Below w.heap.size w w':=by
 have HE:=Hd hE;have HS:=Hd (fun W hE=>Hx n d n' d' W hE hn hd hn' hd');have hl:=Sl hn hd hn' hd';have HP:=Hd (fun W=>rD (aJ (eT (iY n d n' d') (iG d d'))) (nD (fT (iY n d n' d') (iG d d'))) W (by omega));have HC:=Hd (fun W=>nV (aJ (eT (iY n d n' d') (iG d d'))) [] W (by omega) (by simp));rw[bE,show val []=0 from rfl] at HC;generalize aJ (eT (iY n d n' d') (iG d d'))=rn at *;generalize nD (fT (iY n d n' d') (iG d d'))=rd at *;generalize bG (eT (iY n d n' d') (iG d d')) 0=cv at *;generalize jN rd=rds at *;clear hE hl hn hd hn' hd';go_enter func140,ntmps140;go_wp2_with fail;refine(HS.out _ (HE.out.below (((Br _ _).alloc (Nl _) _).alloc (by simp) _))).mono ?_;rintro e w1 ⟨rfl,hb1⟩;have HB1:=Hd (aA (((Br w.heap.size w).alloc (Nl _) _).alloc (by simp) _) hb1);clear hb1;go_wp2_with fail;refine(HP.out _).mono ?_;rintro e w2 ⟨rfl,hb2⟩;have HB2:=Hd (aA HB1.out hb2);clear hb2;go_wp2_with fail;refine(HC.out _).mono ?_;rintro e w3 ⟨rfl,hb3⟩;go_wp2;go_ret;exact⟨rfl,aA HB2.out hb3⟩
end
end Go.Proofs.YthjekgfoidmagaaGreatDoor
