/- ReadsLaw -/
import Derived.Test.YtgopbldkhlmbnaaGreatDoorJAwake
import Derived.Test.YtgopbldkhlmbnaaGreatDoorJGreat2
import Derived.Test.YtgopbldkhlmbnaaGreatDoorJR14c
set_option maxHeartbeats 16000000
set_option maxRecDepth 100000
namespace Go.Proofs.YtgopbldkhlmbnaaGreatDoor
open Go Go.RowKit Num
theorem factlogReadsLaw_any (xs:List FactV) (known i:Int) (key:List UInt8) (a:Option Addr) (c:Nat) (w:World) (hE:Env w) (hn:xs.length≤9223372036854775807) (hcap:xs.length≤c) (hr:Facts w a xs) (hf:∀ x,x∈xs→x.fits) (_hky:key.length≤maxLen) :
  Calls Tryz.prog 7 #[.slice a xs.length c,.int .i64 known,.int .i64 i,.string ⟨key.toArray⟩] w fun e w'=>e = .returned (.bool true)∧Below w.heap.size w w':=by
 have HG:=Lib.hid (greatAll_any xs a c w hn hr hf)
 have HAW:Hid (∀ W,Below w.heap.size w W→Calls Tryz.prog 12 #[] W fun e w'=>e = .returned (.bool true)∧Below W.heap.size W w'):=fun W hb=>awake14_any W (hE.below hb)
 have HE:=Lib.hid hE
 have HR:=Lib.hid hr
 have HF:=Lib.hid hf
 clear hE hr hf
 go_enter Tryz.func7,Tryz.ntmps7
 go_wp2_with fail
 refine HG.out.mono ?_
 rintro e w1 ⟨⟨g,rfl,hg⟩,hb⟩
 have HB1:=Lib.hid hb
 have HGS:=Lib.hid hg
 clear hb hg HG
 cases g with
 | true =>
  go_wp2_with fail
  refine (HAW.out _ HB1.out).mono ?_
  rintro e w2 ⟨rfl,hb⟩
  go_wp2
  go_ret
  exact ⟨rfl,below_up HB1.out hb⟩
 | false =>
  have HSM:=Lib.hid (HGS.out rfl)
  clear HGS
  by_cases hkl:30 < key.length
  ·go_wp2_with fail
   refine (HAW.out _ HB1.out).mono ?_
   rintro e w2 ⟨rfl,hb⟩
   go_wp2
   go_ret
   exact ⟨rfl,below_up HB1.out hb⟩
  ·have hlen:xs.length≤1003:=by rcases HSM.out.2 with h | h <;> omega
   have HL:Hid (LogAt w a c xs):=⟨HR.out,fun y hy=>⟨(HSM.out.1 y hy).small,(HF.out y hy).picks⟩,by omega,hcap⟩
   have HT:Hid (LogT w a c xs):=⟨HR.out,HSM.out.1,by omega,hcap⟩
   obtain ⟨zs,eh,hz,hh⟩:=history_both xs a c key w HE.out HL.out HT.out
   obtain ⟨v1,⟨i1,b1,e1,rfl⟩,hla⟩:=latest_both xs a c known key w HE.out HL.out HT.out
   obtain ⟨ss,ek,hs,hk⟩:=keys_both xs a c known w HE.out HL.out HT.out
   obtain ⟨v2,⟨i2,b2,e2,rfl⟩,hre⟩:=replaced_both xs a c known i w HE.out HL.out HT.out
   have HH:=Lib.hid hh
   have HLA:=Lib.hid hla
   have HK:=Lib.hid hk
   have HRE:=Lib.hid hre
   have HZ:=Lib.hid hz
   have HS:=Lib.hid hs
   clear hh hla hk hre hz hs HL HT HSM HF HR HE
   generalize xs.length=n at *
   go_wp2_with fail
   refine (HH.out _ HB1.out).1.mono ?_
   rintro e w2 ⟨⟨a1,c1,rfl,hi1⟩,hb⟩
   have HB2:=Lib.hid (below_up HB1.out hb)
   have HI1:=Lib.hid hi1
   clear hb hi1
   go_wp2_with fail
   refine (HH.out _ HB2.out).2.mono ?_
   rintro e w3 ⟨⟨a2,c2,rfl,hi2⟩,hb⟩
   have HB3:=Lib.hid (below_up HB2.out hb)
   have HI1:=Lib.hid (HI1.out.below hb)
   have HI2:=Lib.hid hi2
   clear hb hi2 HH
   go_wp2_with fail
   refine (HLA.out _ HB3.out).1.mono ?_
   rintro e w4 ⟨rfl,hb⟩
   have HB4:=Lib.hid (below_up HB3.out hb)
   have HI1:=Lib.hid (HI1.out.below hb)
   have HI2:=Lib.hid (HI2.out.below hb)
   clear hb
   go_wp2_with fail
   refine (HLA.out _ HB4.out).2.mono ?_
   rintro e w5 ⟨rfl,hb⟩
   have HB5:=Lib.hid (below_up HB4.out hb)
   have HI1:=Lib.hid (HI1.out.below hb)
   have HI2:=Lib.hid (HI2.out.below hb)
   clear hb HLA
   go_wp2_with fail
   refine (HK.out _ HB5.out).1.mono ?_
   rintro e w6 ⟨⟨a3,c3,rfl,hr3⟩,hb⟩
   have HB6:=Lib.hid (below_up HB5.out hb)
   have HI1:=Lib.hid (HI1.out.below hb)
   have HI2:=Lib.hid (HI2.out.below hb)
   have HR3:=Lib.hid hr3
   clear hb hr3
   go_wp2_with fail
   refine (HK.out _ HB6.out).2.mono ?_
   rintro e w7 ⟨⟨a4,c4,rfl,hr4⟩,hb⟩
   have HB7:=Lib.hid (below_up HB6.out hb)
   have HI1:=Lib.hid (HI1.out.below hb)
   have HI2:=Lib.hid (HI2.out.below hb)
   have HR3:=Lib.hid (HR3.out.below hb)
   have HR4:=Lib.hid hr4
   clear hb hr4 HK
   go_wp2_with fail
   refine (HRE.out _ HB7.out).1.mono ?_
   rintro e w8 ⟨rfl,hb⟩
   have HB8:=Lib.hid (below_up HB7.out hb)
   have HI1:=Lib.hid (HI1.out.below hb)
   have HI2:=Lib.hid (HI2.out.below hb)
   have HR3:=Lib.hid (HR3.out.below hb)
   have HR4:=Lib.hid (HR4.out.below hb)
   clear hb
   go_wp2_with fail
   refine (HRE.out _ HB8.out).2.mono ?_
   rintro e w9 ⟨rfl,hb⟩
   have HB9:=Lib.hid (below_up HB8.out hb)
   have HI1:=Lib.hid (HI1.out.below hb)
   have HI2:=Lib.hid (HI2.out.below hb)
   have HR3:=Lib.hid (HR3.out.below hb)
   have HR4:=Lib.hid (HR4.out.below hb)
   clear hb HRE
   have HEI:=Lib.hid (equalInt_same zs a1 a2 c1 c2 w9 HZ.out HI1.out HI2.out)
   clear HI1 HI2
   go_wp2_with fail
   refine HEI.out.mono ?_
   rintro e w10 ⟨rfl,hb⟩
   have HB10:=Lib.hid (below_up HB9.out hb)
   have HES:=equalStr_any ss ss a3 a4 c3 c4 w10 HS.out HS.out (HR3.out.below hb) (HR4.out.below hb)
   rw [decide_eq_true rfl] at HES
   have HES:=Lib.hid HES
   clear hb HEI HR3 HR4
   go_wp2_with fail
   refine HES.out.mono ?_
   rintro e w11 ⟨rfl,hb⟩
   have HB11:=Lib.hid (below_up HB10.out hb)
   clear hb HES
   go_wp2_with fail
   refine (HAW.out _ HB11.out).mono ?_
   rintro e w12 ⟨rfl,hb⟩
   go_wp2
   go_ret
   exact ⟨rfl,below_up HB11.out hb⟩
end Go.Proofs.YtgopbldkhlmbnaaGreatDoor
