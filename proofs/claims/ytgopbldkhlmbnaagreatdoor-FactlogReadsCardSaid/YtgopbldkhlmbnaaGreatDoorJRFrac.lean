/- RFrac RFrac2 RLim RNums -/
import Derived.Test.YtgopbldkhlmbnaaGreatDoorJRNum
import Derived.Test.YtgopbldkhlmbnaaGreatDoorJFrac
import Derived.Test.YtgopbldkhlmbnaaGreatDoorJFact
set_option maxHeartbeats 16000000
set_option maxRecDepth 100000
namespace Go.Proofs.YtgopbldkhlmbnaaGreatDoor
section
open Go Go.RowKit Num
theorem RZero_any (l:List UInt8) (w:World) (hl:l.length≤1000) :
  Calls Tryz.prog 137 #[.string ⟨l.toArray⟩] w fun e w'=>e = .returned (.bool (decide (val l=0)))∧w'=w:=by
 have H:=Lib.hid (fun W=>RCompare_any l [] W (by omega) (by simp))
 rw [val_nil] at H
 by_cases h:val l=0
 ·have e:cmpI (val l) 0=0:=by rw [h];rfl
  rw [e] at H
  rw [decide_eq_true h]
  clear e h
  go_enter Tryz.func137,Tryz.ntmps137
  go_wp2_with fail
  refine (H.out _).mono ?_
  rintro e w1 ⟨rfl,rfl⟩
  go_wp2
  go_ret
  exact ⟨rfl,rfl⟩
 ·have e:(cmpI (val l) 0 == 0)=false:=by unfold cmpI;split <;> (try split) <;> simp <;> omega
  rw [decide_eq_false h]
  generalize cmpI (val l) 0=z at *
  clear h
  go_enter Tryz.func137,Tryz.ntmps137
  go_wp2_with fail
  refine (H.out _).mono ?_
  rintro e w1 ⟨rfl,rfl⟩
  go_wp2
  go_ret
  exact ⟨rfl,rfl⟩
theorem ROne_any (w:World):Calls Tryz.prog 138 #[] w fun e w'=>e = .returned (.string ⟨([49]:List UInt8).toArray⟩)∧w'=w:=by
 have H:=Lib.hid (fun W=>ROf_any 1 (by decide) (by decide) W)
 rw [canon_one] at H
 go_enter Tryz.func138,Tryz.ntmps138
 go_wp2_with fail
 refine (H.out _).mono ?_
 rintro e w1 ⟨rfl,rfl⟩
 go_wp2
 go_ret
 exact ⟨rfl,rfl⟩
theorem RExact_any (l:List UInt8) (g:Nat) (w:World) (hl:l.length≤1000) (h1:(val l).natAbs < 100000000000000000) (hg:g < 100000000000000000) (h0:0 < g) :
  Calls Tryz.prog 200 #[.string ⟨l.toArray⟩,.string ⟨(canonN g).toArray⟩] w fun e w'=>e = .returned (.string ⟨(canon (val l / (g:Int))).toArray⟩)∧Below w.heap.size w w':=by
 have H:=Lib.hid (fun W=>RDiv_any l (canonN g) W hl (canonN_short hg) h1 (by rw [val_canonN];omega) (by rw [val_canonN];omega))
 rw [val_canonN] at H
 generalize canon (val l / (g:Int))=r at *
 generalize canon (val l % (g:Int))=r2 at *
 generalize canonN g=cg at *
 clear hg h1
 go_enter Tryz.func200,Tryz.ntmps200
 go_wp2_with fail
 refine (H.out _).mono ?_
 rintro e w1 ⟨rfl,hb⟩
 have HB:=Lib.hid hb
 clear hb
 go_wp2
 go_ret
 exact ⟨rfl,HB.out⟩
def rawN (n d:List UInt8):List UInt8:=if val d < 0 then canon (-(val n)) else n
def rawD (d:List UInt8):List UInt8:=if val d=0 then [49] else if val d < 0 then canon (-(val d)) else d
theorem RRaw_any (n d:List UInt8) (w:World) (hn:n.length≤1000) (hd:d.length≤1000) :
  Calls Tryz.prog 106 #[.agg #[.string ⟨n.toArray⟩,.string ⟨d.toArray⟩]] w fun e w'=>e = .returned (.tuple #[.string ⟨(rawN n d).toArray⟩,.string ⟨(rawD d).toArray⟩])∧Below w.heap.size w w':=by
 have HZ:=Lib.hid (fun W=>RZero_any d W hd)
 have HO:=Lib.hid (fun W=>ROne_any W)
 have HB:=Lib.hid (below_alloc w (.cells #[.string ⟨n.toArray⟩,.string ⟨d.toArray⟩] 32))
 by_cases h0:val d=0
 ·have e1:rawN n d=n:=by unfold rawN;rw [if_neg (by omega)]
  have e2:rawD d=[49]:=by unfold rawD;rw [if_pos h0]
  rw [e1,e2]
  rw [decide_eq_true h0] at HZ
  clear e1 e2 h0
  go_enter Tryz.func106,Tryz.ntmps106
  go_wp2_with fail
  refine (HZ.out _).mono ?_
  rintro e w1 ⟨rfl,rfl⟩
  go_wp2_with fail
  go_quiet (refine Calls.quiet_of_same (HO.out _))
  go_wp2
  go_ret2
  exact ⟨rfl,below_drewN HB.out _⟩
 ·have HC:=Lib.hid (fun W=>RCompare_any d [] W (by omega) (by simp))
  rw [val_nil] at HC
  rw [decide_eq_false h0] at HZ
  by_cases h1:val d < 0
  ·have e1:rawN n d=canon (-(val n)):=by unfold rawN;rw [if_pos h1]
   have e2:rawD d=canon (-(val d)):=by unfold rawD;rw [if_neg h0,if_pos h1]
   have e3:cmpI (val d) 0 = -1:=by unfold cmpI;rw [if_pos h1]
   have HNG:Hid (∀ (z:List UInt8) W,z.length≤1000→Calls Tryz.prog 139 #[.string ⟨z.toArray⟩] W fun e w'=>e = .returned (.string ⟨(canon (-(val z))).toArray⟩)∧w'=W):=fun z W hz=>(RNeg_any z W (by omega)).mono (fun _ _ ⟨h,h'⟩=>⟨h,h'.symm⟩)
   rw [e1,e2]
   rw [e3] at HC
   clear e1 e2 e3 h0 h1
   go_enter Tryz.func106,Tryz.ntmps106
   go_wp2_with fail
   refine (HZ.out _).mono ?_
   rintro e w1 ⟨rfl,rfl⟩
   go_wp2_with fail
   refine (HC.out _).mono ?_
   rintro e w1 ⟨rfl,rfl⟩
   go_wp2_with fail
   go_quiet (refine Calls.quiet_of_same (HNG.out _ _ (by first | exact hn | exact hd)))
   go_wp2
   go_ret2
   exact ⟨rfl,below_drewN HB.out _⟩
  ·have e1:rawN n d=n:=by unfold rawN;rw [if_neg h1]
   have e2:rawD d=d:=by unfold rawD;rw [if_neg h0,if_neg h1]
   have e3:cmpI (val d) 0=1:=by unfold cmpI;rw [if_neg h1,if_pos (by omega)]
   rw [e1,e2]
   rw [e3] at HC
   clear e1 e2 e3 h0 h1
   go_enter Tryz.func106,Tryz.ntmps106
   go_wp2_with fail
   refine (HZ.out _).mono ?_
   rintro e w1 ⟨rfl,rfl⟩
   go_wp2_with fail
   refine (HC.out _).mono ?_
   rintro e w1 ⟨rfl,rfl⟩
   go_wp2_with fail
   go_quiet (fail)
   go_wp2
   go_ret2
   exact ⟨rfl,below_drewN HB.out _⟩
theorem rnum_pos {N D:Int} (h:0 < D):rnum N D=N / (gcdZ N D:Int):=by
 unfold rnum
 rw [if_neg (by omega),Int.fdiv_eq_ediv_of_nonneg _ (by omega)]
theorem rden_pos {N D:Int} (h:0 < D):rden N D=D / (gcdZ N D:Int):=by
 unfold rden
 rw [if_neg (by omega),Int.fdiv_eq_ediv_of_nonneg _ (by omega)]
theorem rnum_zero (D:Int):rnum 0 D=0:=by unfold rnum;simp
theorem rden_zero {D:Int} (h:0 < D):rden 0 D=1:=by
 rw [rden_pos h]
 have e:(gcdZ 0 D:Int)=D:=by unfold gcdZ;simp;omega
 rw [e]
 exact Int.ediv_self (by omega)
theorem fden_ne {z:Int} (h:z ≠ 1):fden z=canon z:=by
 unfold fden
 rw [if_neg]
 intro e
 rw [← canon_one] at e
 exact h (canon_inj e)
theorem frac_len {l:List UInt8} {N g:Int} (h:N=val l) (hl:(val l).natAbs < 100000000000000000):(canon (N / g)).length≤1000:=by
 have h1:(N / g).natAbs < 10 ^ 17:=by
  have:=Int.natAbs_ediv_le_natAbs N g
  rw [h] at this ⊢
  omega
 exact Nat.le_trans (canon_len (K:=17) (by decide) h1) (by decide)
theorem RReduced_any (n d:List UInt8) (w:World) (hn:n.length≤1000) (hd:d.length≤1000) (h1:(val n).natAbs < 100000000000000000) (h2:(val d).natAbs < 100000000000000000) (h0:0 < val d) :
  Calls Tryz.prog 172 #[.string ⟨n.toArray⟩,.string ⟨d.toArray⟩] w fun e w'=>e = .returned (.agg #[.string ⟨(canon (rnum (val n) (val d))).toArray⟩,.string ⟨(fden (rden (val n) (val d))).toArray⟩])∧Below w.heap.size w w':=by
 have HZ:=Lib.hid (fun W=>RZero_any n W hn)
 have HB0:=Lib.hid (below_alloc w (.cells #[.string ⟨#[]⟩,.string ⟨#[]⟩] 32))
 have HX0:=Lib.hid (Box.new0 w #[.string ⟨#[]⟩,.string ⟨#[]⟩] 32)
 by_cases hz:val n=0
 ·rw [decide_eq_true hz] at HZ
  rw [hz,rnum_zero,rden_zero h0,fden_one,canon_zero]
  have k0:=HX0.out.cell 0
  have k1:=HX0.out.cell 1
  have f0:=frozen_at HX0.out.2 0
  have f1:=frozen_at HX0.out.2 1
  clear hz h0 h1 h2 HX0
  go_enter Tryz.func172,Tryz.ntmps172
  go_wp2_with fail
  refine (HZ.out _).mono ?_
  rintro e w1 ⟨rfl,rfl⟩
  go_wp2_with fail
  refine bodyPost_ret (v:=.agg #[.string ⟨#[]⟩,.string ⟨#[]⟩]) (by simp [results,Tryz.results172,go_sem,k0,k1]) rfl ⟨rfl,HB0.out⟩
 ·have hgp:0 < gcdZ (val n) (val d):=gcdZ_pos (by omega)
  have hgl:gcdZ (val n) (val d) < 100000000000000000:=Nat.lt_of_le_of_lt (gcdZ_le (by omega)) h2
  rw [decide_eq_false hz] at HZ
  have HG:=Lib.hid (fun W=>RGcd_any n d W hn hd h1 h2)
  have HE1:=Lib.hid (fun W=>RExact_any n (gcdZ (val n) (val d)) W hn h1 hgl hgp)
  have HE2:=Lib.hid (fun W=>RExact_any d (gcdZ (val n) (val d)) W hd h2 hgl hgp)
  have HO:=Lib.hid (fun W=>ROne_any W)
  rw [← rnum_pos h0] at HE1
  rw [← rden_pos h0] at HE2
  have hdl:(canon (rden (val n) (val d))).length≤1000:=by rw [rden_pos h0];exact frac_len (l:=d) rfl h2
  have HC:=Lib.hid (fun W=>RCompare_any (canon (rden (val n) (val d))) [49] W (by omega) (by simp))
  rw [val_canon,val_one] at HC
  generalize canonN (gcdZ (val n) (val d))=cg at *
  generalize canon (rnum (val n) (val d))=rn at *
  obtain ⟨z,hz2⟩:∃ z,z=rden (val n) (val d):=⟨_,rfl⟩
  rw [← hz2] at HE2 HC hdl ⊢
  clear hz2 hgp hgl h1 h2 h0 hz
  go_enter Tryz.func172,Tryz.ntmps172
  go_wp2_with fail
  refine (HZ.out _).mono ?_
  rintro e w1 ⟨rfl,rfl⟩
  go_wp2_with fail
  refine (HG.out _).mono ?_
  rintro e w2 ⟨rfl,hb2⟩
  have HX2:=Lib.hid (HX0.out.below hb2)
  have HB2:=Lib.hid (below_up HB0.out hb2)
  clear hb2 HX0 HB0 HG
  go_wp2_with fail
  refine (HE1.out _).mono ?_
  rintro e w3 ⟨rfl,hb3⟩
  have HX3:=Lib.hid (HX2.out.below hb3)
  have HB3:=Lib.hid (below_up HB2.out hb3)
  clear hb3 HX2 HB2 HE1
  go_wp2_with fail
  refine (HE2.out _).mono ?_
  rintro e w4 ⟨rfl,hb4⟩
  have HX4:=Lib.hid (HX3.out.below hb4)
  have HB4:=Lib.hid (below_up HB3.out hb4)
  clear hb4 HX3 HB3 HE2
  have HX5:=Lib.hid (HX4.out.below (below_alloc w4 (.cells #[.string ⟨rn.toArray⟩,.string ⟨(canon z).toArray⟩] 32)))
  have HB5:=Lib.hid (below_up HB4.out (below_alloc w4 (.cells #[.string ⟨rn.toArray⟩,.string ⟨(canon z).toArray⟩] 32)))
  have HX6:=Lib.hid (Box.new0 w4 #[.string ⟨rn.toArray⟩,.string ⟨(canon z).toArray⟩] 32)
  have hlt:=HX4.out.1
  have HLE:=Lib.hid HB4.out.size
  have c0:=HX6.out.cell 0
  have c1:=HX6.out.cell 1
  have g1:=frozen_at HX6.out.2 1
  have k0:=HX5.out.cell 0
  have k1:=HX5.out.cell 1
  have f0:=frozen_at HX5.out.2 0
  have f1:=frozen_at HX5.out.2 1
  have hne:w.heap.size ≠ w4.heap.size:=by omega
  have hne2:w4.heap.size ≠ w.heap.size:=by omega
  by_cases hz1:z=1
  ·have HC2:Hid (∀ W,Calls Tryz.prog 103 #[.string ⟨(canon z).toArray⟩,.string ⟨([49]:List UInt8).toArray⟩] W fun e w'=>e = .returned (.int .i64 0)∧w'=W):=fun W=>by
    have h:=HC.out W
    rw [hz1,show cmpI 1 1=0 from rfl,← hz1] at h
    exact h.mono fun _ _ ⟨h,h'⟩=>⟨h,h'.symm⟩
   have hfd:fden z=[]:=by rw [hz1,fden_one]
   have HFD:=Lib.hid hfd
   clear hfd hz1 HC HX4 HB4 hlt
   generalize canon z=cz at *
   go_wp2_with fail
   go_quiet (first | (go_at_call 138;refine Calls.quiet_of_same (HO.out _)) | (go_at_call 103;refine Calls.quiet_of_same (HC2.out _)))
   go_wp2
   refine bodyPost_ret (v:=.agg #[.string ⟨rn.toArray⟩,.string ⟨#[]⟩]) (by simp [results,Tryz.results172,go_sem,k0,k1]) rfl ⟨by rw [HFD.out],?_⟩
   exact (((below_drewN HB5.out _).setCell (p:=⟨w4.heap.size,1,none⟩) HLE.out _).setCell (p:=⟨w.heap.size,0,none⟩) (Nat.le_refl _) _).setCell (p:=⟨w.heap.size,1,none⟩) (Nat.le_refl _) _
  ·have hcn:(cmpI z 1 == 0)=false:=by unfold cmpI;split <;> (try split) <;> simp <;> omega
   have HC2:Hid (∀ W,Calls Tryz.prog 103 #[.string ⟨(canon z).toArray⟩,.string ⟨([49]:List UInt8).toArray⟩] W fun e w'=>e = .returned (.int .i64 (cmpI z 1))∧w'=W):=fun W =>
    (HC.out W).mono fun _ _ ⟨h,h'⟩=>⟨h,h'.symm⟩
   have HFD:=Lib.hid (fden_ne hz1)
   clear hz1 HC HX4 HB4 hlt
   generalize cmpI z 1=cz1 at *
   generalize hcz:canon z=cz at *
   go_wp2_with fail
   go_quiet (first | (go_at_call 138;refine Calls.quiet_of_same (HO.out _)) | (go_at_call 103;refine Calls.quiet_of_same (HC2.out _)))
   go_wp2
   refine bodyPost_ret (v:=.agg #[.string ⟨rn.toArray⟩,.string ⟨cz.toArray⟩]) (by simp [results,Tryz.results172,go_sem,k0,k1]) rfl ⟨by rw [HFD.out],?_⟩
   exact ((below_drewN HB5.out _).setCell (p:=⟨w.heap.size,0,none⟩) (Nat.le_refl _) _).setCell (p:=⟨w.heap.size,1,none⟩) (Nat.le_refl _) _
theorem rawN_val (n d:List UInt8):val (rawN n d)=if val d < 0 then -(val n) else val n:=by
 unfold rawN
 split
 ·rw [val_canon]
 ·rfl
theorem rawD_val (d:List UInt8):val (rawD d)=if den d < 0 then -(den d) else den d:=by
 unfold rawD den
 by_cases h:val d=0
 ·rw [if_pos h,if_pos h,if_neg (by omega)];exact val_one
 ·rw [if_neg h,if_neg h]
  split
  ·rw [val_canon]
  ·rfl
theorem rawD_pos (d:List UInt8):0 < val (rawD d):=by
 have:=den_ne d
 rw [rawD_val]
 split <;> omega
theorem raw_reduced (n d:List UInt8):rnum (val (rawN n d)) (val (rawD d))=rnum (val n) (den d)∧rden (val (rawN n d)) (val (rawD d))=rden (val n) (den d):=by
 rw [rawN_val,rawD_val]
 have hd:val d < 0 ↔ den d < 0:=by unfold den;split <;> omega
 by_cases h:den d < 0
 ·rw [if_pos (hd.2 h),if_pos h]
  unfold rnum rden
  rw [gcdZ_neg,if_pos h,if_pos h,if_neg (by omega),if_neg (by omega)]
  exact ⟨rfl,rfl⟩
 ·rw [if_neg (fun e=>h (hd.1 e)),if_neg h]
  exact ⟨rfl,rfl⟩
theorem rawN_abs (n d:List UInt8):(val (rawN n d)).natAbs=(val n).natAbs:=by rw [rawN_val];split <;> simp
theorem rawD_abs (d:List UInt8):(val (rawD d)).natAbs=(den d).natAbs:=by rw [rawD_val];split <;> simp
theorem rawN_len {n d:List UInt8} {K:Nat} (hK:1≤K) (h:n.length≤K):(rawN n d).length≤K+1:=by
 unfold rawN
 split
 ·exact neg_len hK h
 ·omega
theorem rawD_len {d:List UInt8} {K:Nat} (hK:1≤K) (h:d.length≤K):(rawD d).length≤K+1:=by
 unfold rawD
 split
 ·simp
 ·split
  ·exact neg_len hK h
  ·omega
end
section
open Go Go.RowKit Num
theorem den_abs {d:List UInt8} {K:Nat} (h:(val d).natAbs < K) (hK:1 < K):(den d).natAbs < K:=by unfold den;split <;> omega
theorem RCanonF_any (n d:List UInt8) (w:World) (hn:n.length≤900) (hd:d.length≤900) (h1:(val n).natAbs < 100000000000000000) (h2:(val d).natAbs < 100000000000000000) :
  Calls Tryz.prog 144 #[.agg #[.string ⟨n.toArray⟩,.string ⟨d.toArray⟩]] w fun e w'=>e = .returned (.agg #[.string ⟨(canon (rnum (val n) (den d))).toArray⟩,.string ⟨(fden (rden (val n) (den d))).toArray⟩])∧Below w.heap.size w w':=by
 have HR:=Lib.hid (fun W=>RRaw_any n d W (by omega) (by omega))
 have HD:=Lib.hid (fun W=>RReduced_any (rawN n d) (rawD d) W (by have:=rawN_len (d:=d) (K:=900) (by decide) hn;omega) (by have:=rawD_len (K:=900) (by decide) hd;omega) (by rw [rawN_abs];exact h1) (by rw [rawD_abs];exact den_abs h2 (by decide)) (rawD_pos d))
 rw [(raw_reduced n d).1,(raw_reduced n d).2] at HD
 generalize rawN n d=rn at *
 generalize rawD d=rd at *
 generalize canon (rnum (val n) (den d))=cn at *
 generalize fden (rden (val n) (den d))=cd at *
 have HB:=Lib.hid (((Below.refl w.heap.size w).alloc (Nat.le_refl _) (.cells #[.string ⟨n.toArray⟩,.string ⟨d.toArray⟩] 32)).alloc (by simp) (.cells #[.string ⟨#[]⟩,.string ⟨#[]⟩] 32))
 have HX:Hid (Box ((w.alloc (.cells #[.string ⟨n.toArray⟩,.string ⟨d.toArray⟩] 32)).alloc (.cells #[.string ⟨#[]⟩,.string ⟨#[]⟩] 32)) (w.heap.size+1) #[.string ⟨#[]⟩,.string ⟨#[]⟩] 32):=by
  have h:=Box.new0 (w.alloc (.cells #[.string ⟨n.toArray⟩,.string ⟨d.toArray⟩] 32)) #[.string ⟨#[]⟩,.string ⟨#[]⟩] 32
  rw [World.size_alloc] at h
  exact h
 clear h1 h2
 go_enter Tryz.func144,Tryz.ntmps144
 go_wp2_with fail
 refine (HR.out _).mono ?_
 rintro e w1 ⟨rfl,hb1⟩
 have HX1:=Lib.hid (HX.out.below hb1)
 have HB1:=Lib.hid (below_up HB.out hb1)
 clear hb1 HX HB HR
 go_wp2_with fail
 refine (HD.out _).mono ?_
 rintro e w2 ⟨rfl,hb2⟩
 have HX2:=Lib.hid (HX1.out.below hb2)
 have HB2:=Lib.hid (below_up HB1.out hb2)
 have k0:=HX2.out.cell 0
 have k1:=HX2.out.cell 1
 have f0:=frozen_at HX2.out.2 0
 have f1:=frozen_at HX2.out.2 1
 clear hb2 HX1 HB1 HD
 go_wp2
 refine bodyPost_ret (v:=.agg #[.string ⟨cn.toArray⟩,.string ⟨cd.toArray⟩]) (by simp [results,Tryz.results144,go_sem,k0,k1]) rfl ⟨rfl,?_⟩
 exact (HB2.out.setCell (p:=⟨w.heap.size+1,0,none⟩) (by show _≤w.heap.size+1;omega) _).setCell (p:=⟨w.heap.size+1,1,none⟩) (by show _≤w.heap.size+1;omega) _
def fcmp (n d n' d':List UInt8):Int:=cmpI (val (rawN n d) * val (rawD d')) (val (rawN n' d') * val (rawD d))
theorem RFCompare_any (n d n' d':List UInt8) (w:World) (hn:n.length≤16) (hd:d.length≤16) (hn':n'.length≤16) (hd':d'.length≤16) :
  Calls Tryz.prog 79 #[.agg #[.string ⟨n.toArray⟩,.string ⟨d.toArray⟩],.agg #[.string ⟨n'.toArray⟩,.string ⟨d'.toArray⟩]] w fun e w'=>e = .returned (.int .i64 (fcmp n d n' d'))∧Below w.heap.size w w':=by
 have HR1:=Lib.hid (fun W=>RRaw_any n d W (by omega) (by omega))
 have HR2:=Lib.hid (fun W=>RRaw_any n' d' W (by omega) (by omega))
 have a1:(val (rawN n d)).natAbs < 100000000000000000:=by rw [rawN_abs];exact Nat.lt_of_lt_of_le (val_lt hn) (by decide)
 have a2:(val (rawN n' d')).natAbs < 100000000000000000:=by rw [rawN_abs];exact Nat.lt_of_lt_of_le (val_lt hn') (by decide)
 have a3:(val (rawD d)).natAbs < 100000000000000000:=by rw [rawD_abs];exact Nat.lt_of_lt_of_le (den_abs (val_lt hd) (by decide)) (by decide)
 have a4:(val (rawD d')).natAbs < 100000000000000000:=by rw [rawD_abs];exact Nat.lt_of_lt_of_le (den_abs (val_lt hd') (by decide)) (by decide)
 have l1:=rawN_len (d:=d) (by decide:1≤16) hn
 have l2:=rawN_len (d:=d') (by decide:1≤16) hn'
 have l3:=rawD_len (by decide:1≤16) hd
 have l4:=rawD_len (by decide:1≤16) hd'
 have HM1:=Lib.hid (fun W=>RMul_any (rawN n d) (rawD d') W (by omega) (by omega) a1 a4)
 have HM2:=Lib.hid (fun W=>RMul_any (rawN n' d') (rawD d) W (by omega) (by omega) a2 a3)
 have m1:=mul_len (l:=rawN n d) (m:=rawD d') l1 l4 (by decide)
 have m2:=mul_len (l:=rawN n' d') (m:=rawD d) l2 l3 (by decide)
 have HC:=Lib.hid (fun W=>RCompare_any (canon (val (rawN n d) * val (rawD d'))) (canon (val (rawN n' d') * val (rawD d))) W (by omega) (by omega))
 rw [val_canon,val_canon] at HC
 have hf:cmpI (val (rawN n d) * val (rawD d')) (val (rawN n' d') * val (rawD d))=fcmp n d n' d':=rfl
 rw [hf] at HC
 clear a1 a2 a3 a4 l1 l2 l3 l4 m1 m2 hf
 generalize fcmp n d n' d'=z at *
 generalize canon (val (rawN n d) * val (rawD d'))=p1 at *
 generalize canon (val (rawN n' d') * val (rawD d))=p2 at *
 generalize rawN n d=r1 at *
 generalize rawN n' d'=r2 at *
 generalize rawD d=s1 at *
 generalize rawD d'=s2 at *
 have HB:=Lib.hid (((Below.refl w.heap.size w).alloc (Nat.le_refl _) (.cells #[.string ⟨n.toArray⟩,.string ⟨d.toArray⟩] 32)).alloc (by simp) (.cells #[.string ⟨n'.toArray⟩,.string ⟨d'.toArray⟩] 32))
 have HX:Hid (Box ((w.alloc (.cells #[.string ⟨n.toArray⟩,.string ⟨d.toArray⟩] 32)).alloc (.cells #[.string ⟨n'.toArray⟩,.string ⟨d'.toArray⟩] 32)) (w.heap.size+1) #[.string ⟨n'.toArray⟩,.string ⟨d'.toArray⟩] 32):=by
  have h:=Box.new0 (w.alloc (.cells #[.string ⟨n.toArray⟩,.string ⟨d.toArray⟩] 32)) #[.string ⟨n'.toArray⟩,.string ⟨d'.toArray⟩] 32
  rw [World.size_alloc] at h
  exact h
 have HX0:Hid (Box ((w.alloc (.cells #[.string ⟨n.toArray⟩,.string ⟨d.toArray⟩] 32)).alloc (.cells #[.string ⟨n'.toArray⟩,.string ⟨d'.toArray⟩] 32)) w.heap.size #[.string ⟨n.toArray⟩,.string ⟨d.toArray⟩] 32):=(Box.new0 w _ _).below (below_alloc _ _)
 have q0:=HX0.out.cell 0
 have q1:=HX0.out.cell 1
 go_enter Tryz.func79,Tryz.ntmps79
 go_wp2_with fail
 refine (HR1.out _).mono ?_
 rintro e w1 ⟨rfl,hb1⟩
 have HB1:=Lib.hid (below_up HB.out hb1)
 have k0:=(HX.out.below hb1).cell 0
 have k1:=(HX.out.below hb1).cell 1
 clear hb1 HX HX0 HB HR1 q0 q1
 go_wp2_with fail
 refine (HR2.out _).mono ?_
 rintro e w2 ⟨rfl,hb2⟩
 have HB2:=Lib.hid (below_up HB1.out hb2)
 clear hb2 HB1 HR2 k0 k1
 go_wp2_with fail
 refine (HM1.out _).mono ?_
 rintro e w3 ⟨rfl,hb3⟩
 have HB3:=Lib.hid (below_up HB2.out hb3)
 clear hb3 HB2 HM1
 go_wp2_with fail
 refine (HM2.out _).mono ?_
 rintro e w4 ⟨rfl,hb4⟩
 have HB4:=Lib.hid (below_up HB3.out hb4)
 clear hb4 HB3 HM2
 go_wp2_with fail
 refine (HC.out _).mono ?_
 rintro e w5 ⟨rfl,rfl⟩
 go_wp2
 go_ret
 exact ⟨rfl,HB4.out⟩
theorem RFSign_any (n d:List UInt8) (w:World) (hn:n.length≤16) (hd:d.length≤16) :
  Calls Tryz.prog 105 #[.agg #[.string ⟨n.toArray⟩,.string ⟨d.toArray⟩]] w fun e w'=>e = .returned (.int .i64 (fcmp n d [] []))∧Below w.heap.size w w':=by
 have HC:=Lib.hid (fun W=>RFCompare_any n d [] [] W hn hd (by simp) (by simp))
 have HB:=Lib.hid (below_alloc w (.cells #[.string ⟨n.toArray⟩,.string ⟨d.toArray⟩] 32))
 generalize fcmp n d [] []=z at *
 go_enter Tryz.func105,Tryz.ntmps105
 go_wp2_with fail
 refine (HC.out _).mono ?_
 rintro e w1 ⟨rfl,hb1⟩
 have HB1:=Lib.hid (below_up HB.out hb1)
 clear hb1
 go_wp2
 go_ret
 exact ⟨rfl,HB1.out⟩
theorem RFCheck_any (n d:List UInt8) (w:World) (hn:n.length≤16) (hd:d.length≤16) :
  Calls Tryz.prog 136 #[.agg #[.string ⟨n.toArray⟩,.string ⟨d.toArray⟩]] w fun e w'=>e = .returned (.int .i64 (if fok n d=true then 0 else 1))∧Below w.heap.size w w':=by
 have HC:=Lib.hid (fun W=>RCanonF_any n d W (by omega) (by omega) (Nat.lt_of_lt_of_le (val_lt hn) (by decide)) (Nat.lt_of_lt_of_le (val_lt hd) (by decide)))
 unfold fok
 generalize canon (rnum (val n) (den d))=cn at *
 generalize fden (rden (val n) (den d))=cd at *
 have HX0:=Lib.hid (Box.new0 w #[.string ⟨n.toArray⟩,.string ⟨d.toArray⟩] 32)
 have HB0:=Lib.hid (below_alloc w (.cells #[.string ⟨n.toArray⟩,.string ⟨d.toArray⟩] 32))
 have HC2:Hid (∀ k,Calls Tryz.prog 144 #[.agg #[.string ⟨n.toArray⟩,.string ⟨d.toArray⟩]] ((w.alloc (.cells #[.string ⟨n.toArray⟩,.string ⟨d.toArray⟩] 32)).drewN k) fun e w'=>e = .returned (.agg #[.string ⟨cn.toArray⟩,.string ⟨cd.toArray⟩])∧Below (w.alloc (.cells #[.string ⟨n.toArray⟩,.string ⟨d.toArray⟩] 32)).heap.size (w.alloc (.cells #[.string ⟨n.toArray⟩,.string ⟨d.toArray⟩] 32)) w'):=fun k =>
  (HC.out _).mono fun e w' ⟨h1,h2⟩=>⟨h1,(below_drewN (Below.refl _ _) k).trans h2⟩
 have k0:=HX0.out.cell 0
 have k1:=HX0.out.cell 1
 rcases (show (n=cn∧d=cd)∨(n=cn∧¬ d=cd)∨¬ n=cn by by_cases h:n=cn <;> by_cases h':d=cd <;> simp [h,h']) with ⟨h1,h2⟩ | ⟨h1,h2⟩ | h1
 ·subst h1 h2
  rw [if_pos (by simp)]
  go_enter Tryz.func136,Tryz.ntmps136
  go_wp2_with fail
  go_region_held3 (fun W=>W.cell? ⟨w.heap.size,0,none⟩=some (.string ⟨n.toArray⟩)∧W.cell? ⟨w.heap.size,1,none⟩=some (.string ⟨d.toArray⟩)) (first | exact ⟨k0,k1⟩ | go_keep)
   (first | (go_at_call 144;refine (HC2.out 1).mono ?_;rintro e w5 ⟨rfl,hb5⟩;have k0:=(HX0.out.below hb5).cell 0;have k1:=(HX0.out.below hb5).cell 1;have HB5:=Lib.hid (below_up HB0.out hb5);clear hb5))
  go_wp2
  go_ret
  exact ⟨rfl,HB5.out⟩
 ·subst h1
  rw [if_neg (by simp [h2])]
  have h2':(d == cd)=false:=by simpa using h2
  go_enter Tryz.func136,Tryz.ntmps136
  go_wp2_with fail
  go_region_held3 (fun W=>W.cell? ⟨w.heap.size,0,none⟩=some (.string ⟨n.toArray⟩)∧W.cell? ⟨w.heap.size,1,none⟩=some (.string ⟨d.toArray⟩)) (first | exact ⟨k0,k1⟩ | go_keep)
   (first | (go_at_call 144;refine (HC2.out 1).mono ?_;rintro e w5 ⟨rfl,hb5⟩;have k0:=(HX0.out.below hb5).cell 0;have k1:=(HX0.out.below hb5).cell 1;have HB5:=Lib.hid (below_up HB0.out hb5);clear hb5))
  go_wp2
  go_ret
  exact ⟨rfl,HB5.out⟩
 ·rw [if_neg (by simp [h1])]
  have h1':(n == cn)=false:=by simpa using h1
  go_enter Tryz.func136,Tryz.ntmps136
  go_wp2_with fail
  go_region_held3 (fun W=>W.cell? ⟨w.heap.size,0,none⟩=some (.string ⟨n.toArray⟩)∧W.cell? ⟨w.heap.size,1,none⟩=some (.string ⟨d.toArray⟩)) (first | exact ⟨k0,k1⟩ | go_keep)
   (first | (go_at_call 144;refine (HC2.out 1).mono ?_;rintro e w5 ⟨rfl,hb5⟩;have k0:=(HX0.out.below hb5).cell 0;have k1:=(HX0.out.below hb5).cell 1;have HB5:=Lib.hid (below_up HB0.out hb5);clear hb5))
  go_wp2
  go_ret
  exact ⟨rfl,HB5.out⟩
end
section
open Go.RowKit Num
theorem cmpI_zero (z:Int):(cmpI z 0 < 0 ↔ z < 0)∧(cmpI z 0=0 ↔ z=0)∧(0 < cmpI z 0 ↔ 0 < z):=by
 unfold cmpI
 split
 ·refine ⟨?_,?_,?_⟩ <;> omega
 ·split
  ·refine ⟨?_,?_,?_⟩ <;> omega
  ·refine ⟨?_,?_,?_⟩ <;> omega
theorem cmpI_sub (a b:Int):cmpI a b=cmpI (a - b) 0:=by
 unfold cmpI
 by_cases h1:a < b
 ·rw [if_pos h1,if_pos (by omega)]
 ·by_cases h2:b < a
  ·rw [if_neg h1,if_pos h2,if_neg (by omega),if_pos (by omega)]
  ·rw [if_neg h1,if_neg h2,if_neg (by omega),if_neg (by omega)]
theorem cmpI_fdiv {X:Int} {g:Nat} (hg:0 < g) (h:X.natAbs % g=0):cmpI (X.fdiv g) 0=cmpI X 0:=by
 obtain ⟨k,hk⟩:∃ k:Int,X=k * (g:Int):=by
  have h1:(g:Int) ∣ X:=by
   rw [← Int.dvd_natAbs]
   exact Int.ofNat_dvd.2 (Nat.dvd_of_mod_eq_zero h)
  obtain ⟨k,hk⟩:=h1
  exact ⟨k,by rw [hk,Int.mul_comm]⟩
 have hf:X.fdiv g=k:=by rw [hk];exact Int.mul_fdiv_cancel k (by omega)
 rw [hf]
 have hgI:(0:Int) < (g:Int):=by omega
 unfold cmpI
 by_cases h1:k < 0
 ·have:X < 0:=by rw [hk];exact Int.mul_neg_of_neg_of_pos h1 hgI
  rw [if_pos h1,if_pos this]
 ·by_cases h2:0 < k
  ·have:0 < X:=by rw [hk];exact Int.mul_pos h2 hgI
   rw [if_neg h1,if_pos h2,if_neg (by omega),if_pos this]
  ·have h0:k=0:=by omega
   have:X=0:=by rw [hk,h0];simp
   rw [if_neg h1,if_neg h2,if_neg (by omega),if_neg (by omega)]
theorem rnum_sign {N D:Int} (hD:D ≠ 0):cmpI (rnum N D) 0=cmpI (if D < 0 then -N else N) 0:=by
 unfold rnum
 refine cmpI_fdiv (gcdZ_pos hD) ?_
 have:=num_mod N D
 split
 ·rw [Int.natAbs_neg];exact this
 ·exact this
theorem den_nil:den []=1:=by unfold den;rw [if_pos (show val ([]:List UInt8)=0 from rfl)]
theorem rawN_nil:val (rawN [] [])=0:=by rw [rawN_val];rfl
theorem rawD_nil:val (rawD [])=1:=by rw [rawD_val,den_nil];rfl
theorem val_lt_den (d:List UInt8):val d < 0 ↔ den d < 0:=by unfold den;split <;> omega
theorem fsign_cmp (n d:List UInt8):fsign n d=fcmp n d [] []:=by
 unfold fsign fcmp subN subD
 rw [den_nil,rawN_nil,rawD_nil,Int.mul_one,Int.mul_one,Int.zero_mul,Int.mul_one,rawN_val]
 have e:val ([]:List UInt8)=0:=rfl
 rw [e,Int.zero_mul,Int.sub_zero,rnum_sign (den_ne d)]
 by_cases h:den d < 0
 ·rw [if_pos h,if_pos ((val_lt_den d).2 h)]
 ·rw [if_neg h,if_neg (fun e=>h ((val_lt_den d).1 e))]
theorem fover_cmp (n d:List UInt8):fover n d=fcmp n d [49] []:=by
 unfold fover fcmp subN subD
 have e1:val (rawN [49] [])=1:=by rw [rawN_val,val_one];rfl
 rw [den_nil,rawD_nil,e1,val_one,Int.mul_one,Int.mul_one,Int.one_mul,Int.one_mul,Int.mul_one,rnum_sign (den_ne d),cmpI_sub (val (rawN n d)),rawN_val,rawD_val]
 by_cases h:den d < 0
 ·rw [if_pos h,if_pos ((val_lt_den d).2 h),if_pos h]
  congr 1
  omega
 ·rw [if_neg h,if_neg (fun e=>h ((val_lt_den d).1 e)),if_neg h]
theorem body13 {l:List UInt8} (h:l.length≤13):¬ 40 < (body l).length:=by have:=body_le l;omega
theorem lim_frac {n d:List UInt8} (hn:n.length≤13) (hd:d.length≤13) (p:Bool):lim p false n d=if fok n d=false then 1 else if fcmp n d [] [] < 0∨(p=true∧fcmp n d [] []=0) then 2 else 0:=by
 unfold lim
 rw [fsign_cmp,if_neg (show ¬ (40 < (body n).length∨40 < (body d).length) from fun h=>h.elim (body13 hn) (body13 hd))]
 simp
theorem lim_over {n d:List UInt8} (hn:n.length≤13) (hd:d.length≤13):lim false true n d=if fok n d=false then 1 else if fcmp n d [] [] < 0∨0 < fcmp n d [49] [] then 2 else 0:=by
 unfold lim
 rw [fsign_cmp,fover_cmp,if_neg (show ¬ (40 < (body n).length∨40 < (body d).length) from fun h=>h.elim (body13 hn) (body13 hd))]
 simp
theorem fok_int (a:List UInt8):fok a []=(a == canon (val a)):=by
 unfold fok
 have e1:rnum (val a) 1=val a:=by
  unfold rnum gcdZ
  simp
 have e2:rden (val a) 1=1:=by
  unfold rden gcdZ
  simp
 rw [den_nil,e1,e2,fden_one]
 simp
theorem lim_int {a:List UInt8} (ha:a.length≤13) (p:Bool):lim p false a []=if (a == canon (val a))=false then 1 else if val a < (if p=true then 1 else 0) then 2 else 0:=by
 rw [lim_frac ha (by simp) p,fok_int]
 have e:fcmp a [] [] []=cmpI (val a) 0:=by
  unfold fcmp
  rw [rawN_nil,rawD_nil,rawN_val]
  have e:val ([]:List UInt8)=0:=rfl
  rw [e,if_neg (by omega),Int.mul_one,Int.mul_one]
 obtain ⟨c1,c2,_⟩:=cmpI_zero (val a)
 rw [e]
 congr 1
 have:(cmpI (val a) 0 < 0∨p=true∧cmpI (val a) 0=0) ↔ val a < (if p=true then 1 else 0):=by
  rw [c1,c2]
  cases p
  ·simp
  ·simp;omega
 simp only [this]
end
section
open Go Go.RowKit Num
def ndig (l:List UInt8):Nat:=if l.head? = some 45 then l.length - 1 else l.length
theorem RDigits_any (l:List UInt8) (w:World) (hl:l.length≤1000) :
  Calls Tryz.prog 102 #[.string ⟨l.toArray⟩] w fun e w'=>e = .returned (.int .i64 (ndig l:Nat))∧w'=w:=by
 cases l with
 | nil =>
  go_enter Tryz.func102,Tryz.ntmps102
  go_wp2
  go_ret
  exact ⟨rfl,rfl⟩
 | cons c r =>
  have hsz:0 < (⟨(c :: r).toArray⟩:ByteArray).size:=by rw [str_size];simp
  have hgk:((⟨(c :: r).toArray⟩:ByteArray)[0]'hsz)=c:=rfl
  by_cases hc:c=45
  ·have e:ndig (c :: r)=r.length:=by unfold ndig;rw [hc];simp
   have hc2:(c.toNat:Int)=45:=by rw [hc];rfl
   rw [e]
   clear e hc
   go_enter Tryz.func102,Tryz.ntmps102
   go_wp2
   go_ret
   exact ⟨by simp;simp at hl;unfold wrap64;omega,rfl⟩
  ·have e:ndig (c :: r)=r.length+1:=by unfold ndig;rw [if_neg (by simpa using hc)];rfl
   have hc2:((c.toNat:Int) == 45)=false:=by
    have:c.toNat ≠ 45:=fun h=>hc (UInt8.toNat_inj.1 h)
    simp;omega
   rw [e]
   clear e hc
   go_enter Tryz.func102,Tryz.ntmps102
   go_wp2
   go_ret
   exact ⟨by simp,rfl⟩
theorem ndig_le (l:List UInt8):ndig l≤l.length:=by unfold ndig;split <;> omega
theorem RWhole_any (a:List UInt8) (p:Bool) (w:World) (ha:a.length≤13) :
  Calls Tryz.prog 76 #[.string ⟨a.toArray⟩,.string ⟨(if p=true then ([49]:List UInt8) else []).toArray⟩] w fun e w'=>e = .returned (.int .i64 (lim p false a []))∧w'=w:=by
 have H1:=Lib.hid (fun W=>RCheck_any a W (by omega))
 have H2:=Lib.hid (fun W=>RDigits_any a W (by omega))
 have hnd:=ndig_le a
 have hnd2:((ndig a:Nat):Int)≤13:=by omega
 have H3:=Lib.hid (fun W=>RCompare_any a (if p=true then ([49]:List UInt8) else []) W (by omega) (by split <;> simp))
 have e0:val (if p=true then ([49]:List UInt8) else [])=(if p=true then 1 else 0):=by cases p;rfl;exact val_one
 rw [e0] at H3
 rw [lim_int ha p]
 generalize (if p=true then ([49]:List UInt8) else [])=le at *
 generalize (if p=true then (1:Int) else 0)=lv at *
 have hci:isInt a=(a == canon (val a)):=by
  unfold isInt
  rw [Bool.eq_iff_iff]
  simp only [decide_eq_true_eq,beq_iff_eq]
  exact ⟨Eq.symm,Eq.symm⟩
 by_cases h1:(a == canon (val a))=false
 ·rw [if_pos h1]
  rw [hci,h1] at H1
  simp only [Bool.false_eq_true,if_false] at H1
  clear h1 hci hnd
  go_enter Tryz.func76,Tryz.ntmps76
  go_wp2_with fail
  refine (H1.out _).mono ?_
  rintro e w1 ⟨rfl,rfl⟩
  go_wp2
  go_ret
  exact ⟨rfl,rfl⟩
 ·rw [if_neg h1]
  have h1':(a == canon (val a))=true:=by simpa using h1
  rw [hci,h1'] at H1
  simp only [if_true] at H1
  have HV:Hid (cmpI (val a) lv < 0 ↔ val a < lv):=by
   show _ ↔ _
   unfold cmpI
   split
   ·constructor <;> intro <;> omega
   ·split <;> constructor <;> intro <;> omega
  clear h1 h1' hci hnd e0
  generalize cmpI (val a) lv=cv at *
  generalize ndig a=nd at *
  by_cases h2:val a < lv
  ·have h3:cv < 0:=HV.out.2 h2
   rw [if_pos h2]
   clear h2 HV
   go_enter Tryz.func76,Tryz.ntmps76
   go_wp2_with fail
   refine (H1.out _).mono ?_
   rintro e w1 ⟨rfl,rfl⟩
   go_wp2_with fail
   refine (H2.out _).mono ?_
   rintro e w1 ⟨rfl,rfl⟩
   go_wp2_with fail
   refine (H3.out _).mono ?_
   rintro e w1 ⟨rfl,rfl⟩
   go_wp2
   go_ret
   exact ⟨rfl,rfl⟩
  ·have h3:¬ cv < 0:=fun h=>h2 (HV.out.1 h)
   rw [if_neg h2]
   clear h2 HV
   go_enter Tryz.func76,Tryz.ntmps76
   go_wp2_with fail
   refine (H1.out _).mono ?_
   rintro e w1 ⟨rfl,rfl⟩
   go_wp2_with fail
   refine (H2.out _).mono ?_
   rintro e w1 ⟨rfl,rfl⟩
   go_wp2_with fail
   refine (H3.out _).mono ?_
   rintro e w1 ⟨rfl,rfl⟩
   go_wp2
   go_ret
   exact ⟨rfl,rfl⟩
theorem RName13_any (l:List UInt8) (w:World) (hl:l.length≤1000) :
  Calls Tryz.prog 73 #[.string ⟨l.toArray⟩] w fun e w'=>e = .returned (.int .i64 (if isName l=true then 0 else 23))∧w'=w:=by
 have H:=Lib.hid (fun W=>RName_any l W (by omega))
 generalize isName l=b at *
 cases b
 all_goals
  go_enter Tryz.func73,Tryz.ntmps73
  go_wp2_with fail
  refine (H.out _).mono ?_
  rintro e w1 ⟨rfl,rfl⟩
  go_wp2
  go_ret
  exact ⟨rfl,rfl⟩
theorem RNumber10_any (n d:List UInt8) (w:World) (hn:n.length≤13) (hd:d.length≤13) :
  Calls Tryz.prog 104 #[.agg #[.string ⟨n.toArray⟩,.string ⟨d.toArray⟩]] w fun e w'=>e = .returned (.int .i64 (if fok n d=true then 0 else 1))∧Below w.heap.size w w':=by
 have H1:=Lib.hid (fun W=>RFCheck_any n d W (by omega) (by omega))
 have H2:=Lib.hid (fun W=>RDigits_any n W (by omega))
 have H3:=Lib.hid (fun W=>RDigits_any d W (by omega))
 have n1:ndig n≤13:=Nat.le_trans (ndig_le n) hn
 have n2:ndig d≤13:=Nat.le_trans (ndig_le d) hd
 generalize ndig n=dn at *
 generalize ndig d=dd at *
 have HX:=Lib.hid (Box.new0 w #[.string ⟨n.toArray⟩,.string ⟨d.toArray⟩] 32)
 have HB:=Lib.hid (below_alloc w (.cells #[.string ⟨n.toArray⟩,.string ⟨d.toArray⟩] 32))
 generalize fok n d=b at *
 cases b
 ·go_enter Tryz.func104,Tryz.ntmps104
  go_wp2_with fail
  refine (H1.out _).mono ?_
  rintro e w1 ⟨rfl,hb⟩
  have HB1:=Lib.hid (below_up HB.out hb)
  clear hb
  go_wp2
  go_ret
  exact ⟨rfl,HB1.out⟩
 ·go_enter Tryz.func104,Tryz.ntmps104
  go_wp2_with fail
  refine (H1.out _).mono ?_
  rintro e w1 ⟨rfl,hb⟩
  have HB1:=Lib.hid (below_up HB.out hb)
  have k0:=(HX.out.below hb).cell 0
  have k1:=(HX.out.below hb).cell 1
  clear hb
  go_wp2_with fail
  refine (H2.out _).mono ?_
  rintro e w2 ⟨rfl,rfl⟩
  go_wp2_with fail
  refine (H3.out _).mono ?_
  rintro e w2 ⟨rfl,rfl⟩
  go_wp2
  go_ret
  exact ⟨rfl,HB1.out⟩
theorem RNumber13_any (n d:List UInt8) (p:Bool) (w:World) (hn:n.length≤13) (hd:d.length≤13) :
  Calls Tryz.prog 78 #[.agg #[.string ⟨n.toArray⟩,.string ⟨d.toArray⟩],.bool p] w fun e w'=>e = .returned (.int .i64 (lim p false n d))∧Below w.heap.size w w':=by
 have H1:=Lib.hid (fun W=>RNumber10_any n d W hn hd)
 have H2:=Lib.hid (fun W=>RFSign_any n d W (by omega) (by omega))
 rw [lim_frac hn hd p]
 have HX:=Lib.hid (Box.new0 w #[.string ⟨n.toArray⟩,.string ⟨d.toArray⟩] 32)
 have HB:=Lib.hid (below_alloc w (.cells #[.string ⟨n.toArray⟩,.string ⟨d.toArray⟩] 32))
 generalize fok n d=b at *
 generalize fcmp n d [] []=s at *
 cases b
 ·go_enter Tryz.func78,Tryz.ntmps78
  go_wp2_with fail
  refine (H1.out _).mono ?_
  rintro e w1 ⟨rfl,hb⟩
  have HB1:=Lib.hid (below_up HB.out hb)
  clear hb
  go_wp2
  go_ret
  exact ⟨rfl,HB1.out⟩
 ·simp only [Bool.true_eq_false,if_false]
  rcases (show s < 0∨(s=0∧p=true)∨(s=0∧p=false)∨0 < s by cases p <;> simp <;> omega) with hs | ⟨hs,rfl⟩ | ⟨hs,rfl⟩ | hs
  ·rw [if_pos (.inl hs)]
   go_enter Tryz.func78,Tryz.ntmps78
   go_wp2_with fail
   refine (H1.out _).mono ?_
   rintro e w1 ⟨rfl,hb⟩
   have HB1:=Lib.hid (below_up HB.out hb)
   have k0:=(HX.out.below hb).cell 0
   have k1:=(HX.out.below hb).cell 1
   clear hb
   go_wp2_with fail
   refine (H2.out _).mono ?_
   rintro e w2 ⟨rfl,hb⟩
   have HB2:=Lib.hid (below_up HB1.out hb)
   clear hb k0 k1
   go_wp2
   go_ret
   exact ⟨rfl,HB2.out⟩
  ·rw [if_pos (.inr ⟨rfl,hs⟩)]
   subst hs
   go_enter Tryz.func78,Tryz.ntmps78
   go_wp2_with fail
   refine (H1.out _).mono ?_
   rintro e w1 ⟨rfl,hb⟩
   have HB1:=Lib.hid (below_up HB.out hb)
   have HX1:=Lib.hid (HX.out.below hb)
   have k0:=HX1.out.cell 0
   have k1:=HX1.out.cell 1
   clear hb
   go_wp2_with fail
   refine (H2.out _).mono ?_
   rintro e w2 ⟨rfl,hb⟩
   have HB2:=Lib.hid (below_up HB1.out hb)
   have j0:=(HX1.out.below hb).cell 0
   have j1:=(HX1.out.below hb).cell 1
   clear hb k0 k1
   go_wp2_with fail
   refine (H2.out _).mono ?_
   rintro e w3 ⟨rfl,hb⟩
   have HB3:=Lib.hid (below_up HB2.out hb)
   clear hb j0 j1
   go_wp2
   go_ret
   exact ⟨rfl,HB3.out⟩
  ·rw [if_neg (by rintro (h | ⟨h,_⟩);omega;cases h)]
   subst hs
   go_enter Tryz.func78,Tryz.ntmps78
   go_wp2_with fail
   refine (H1.out _).mono ?_
   rintro e w1 ⟨rfl,hb⟩
   have HB1:=Lib.hid (below_up HB.out hb)
   have k0:=(HX.out.below hb).cell 0
   have k1:=(HX.out.below hb).cell 1
   clear hb
   go_wp2_with fail
   refine (H2.out _).mono ?_
   rintro e w2 ⟨rfl,hb⟩
   have HB2:=Lib.hid (below_up HB1.out hb)
   clear hb k0 k1
   go_wp2
   go_ret
   exact ⟨rfl,HB2.out⟩
  ·rw [if_neg (by rintro (h | ⟨_,h⟩) <;> omega)]
   have hs1:¬ s < 0:=by omega
   have hs2:(s == 0)=false:=by simp;omega
   cases p
   all_goals
    go_enter Tryz.func78,Tryz.ntmps78
    go_wp2_with fail
    refine (H1.out _).mono ?_
    rintro e w1 ⟨rfl,hb⟩
    have HB1:=Lib.hid (below_up HB.out hb)
    have HX1:=Lib.hid (HX.out.below hb)
    have k0:=HX1.out.cell 0
    have k1:=HX1.out.cell 1
    clear hb
    go_wp2_with fail
    refine (H2.out _).mono ?_
    rintro e w2 ⟨rfl,hb⟩
    have HB2:=Lib.hid (below_up HB1.out hb)
    have j0:=(HX1.out.below hb).cell 0
    have j1:=(HX1.out.below hb).cell 1
    clear hb k0 k1
   ·go_wp2
    go_ret
    exact ⟨rfl,HB2.out⟩
   ·go_wp2_with fail
    refine (H2.out _).mono ?_
    rintro e w3 ⟨rfl,hb⟩
    have HB3:=Lib.hid (below_up HB2.out hb)
    clear hb j0 j1
    go_wp2
    go_ret
    exact ⟨rfl,HB3.out⟩
end
end Go.Proofs.YtgopbldkhlmbnaaGreatDoor
