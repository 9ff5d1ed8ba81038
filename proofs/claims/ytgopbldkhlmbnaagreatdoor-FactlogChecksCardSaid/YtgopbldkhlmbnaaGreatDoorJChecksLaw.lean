/- ChecksLaw -/
import Derived.Test.YtgopbldkhlmbnaaGreatDoorJAwake
import Derived.Test.YtgopbldkhlmbnaaGreatDoorJGreat2
import Derived.Test.YtgopbldkhlmbnaaGreatDoorJRAppend
import Derived.Test.YtgopbldkhlmbnaaGreatDoorJRowF
set_option maxHeartbeats 16000000
set_option maxRecDepth 100000
namespace Go.Proofs.YtgopbldkhlmbnaaGreatDoor
open Go Go.RowKit Num
theorem appRow_tight {xs:List FactV} {x:FactV} (h1:∀ y,y∈xs→y.f.tight) (h2:x.f.tight):∀ y,y∈appRow xs x→y.f.tight:=by
 intro y hy
 unfold appRow at hy
 split at hy
 ·rcases List.mem_append.1 hy with hy | hy
  ·exact h1 y hy
  ·rw [List.mem_singleton] at hy;subst hy;exact h2
 ·simp at hy
theorem appRow_len {xs:List FactV} {x:FactV}:(appRow xs x).length≤xs.length+1:=by
 unfold appRow
 split
 ·simp
 ·simp
theorem factlogChecksLaw_any (xs:List FactV) (x:FactV) (stamp:Int) (a:Option Addr) (c:Nat) (w:World) (hE:Env w) (hn:xs.length≤9223372036854775807) (hcap:xs.length≤c) (hr:Facts w a xs) (hf:∀ x,x∈xs→x.fits) (hb:x.f.Behind w x.pa x.oa) (hfx:x.fits) :
  Calls Tryz.prog 4 #[.slice a xs.length c,.agg x.arr,.int .i64 stamp] w fun e w'=>e = .returned (.bool true)∧Below w.heap.size w w':=by
 have KX:=Lib.hid (Box.new0 w x.arr 36)
 have HB0:=Lib.hid (below_alloc w (.cells x.arr 36))
 have HG:=Lib.hid (greatAll_any xs a c _ hn (hr.below HB0.out) hf)
 have HG2:Hid (∀ W,Below w.heap.size w W→Calls Tryz.prog 14 #[.agg x.arr] W fun e w'=>(∃ g,e = .returned (.bool g)∧(g=false→x.f.tight))∧Below W.heap.size W w'):=fun W hbw=>great13_any x.f x.pa x.oa x.pc x.oc W (hb.below hbw) (by have:=hfx.npicks;unfold maxLen at this;omega) (by have:=hfx.noptions;unfold maxLen at this;omega)
 have HAW:Hid (∀ W,Below w.heap.size w W→Calls Tryz.prog 12 #[] W fun e w'=>e = .returned (.bool true)∧Below W.heap.size W w'):=fun W hb=>awake14_any W (hE.below hb)
 have HE:=Lib.hid hE
 have HR:=Lib.hid hr
 have HF:=Lib.hid hf
 have HFX:=Lib.hid hfx
 have HBX:=Lib.hid hb
 have HSZ:Hid ((Tryz.prog.info? 36).map (·.size)=some x.arr.size):=factSize x.f x.pa x.oa x.pc x.oc
 obtain ⟨fc,hfc⟩:∃ fc,fc=x.arr:=⟨_,rfl⟩
 have HFC:=Lib.hid hfc
 rw [← hfc] at KX HB0 HG HG2 HSZ ⊢
 clear hE hr hf hb hfx hfc
 go_enter Tryz.func4,Tryz.ntmps4
 go_wp2_with fail
 refine HG.out.mono ?_
 rintro e w1 ⟨⟨g,rfl,hg⟩,hb⟩
 have KX:=Lib.hid (KX.out.below hb)
 have HB1:=Lib.hid (below_up HB0.out hb)
 have HGS:=Lib.hid hg
 clear hb hg HG
 cases g with
 | true =>
  go_wp2_with fail
  refine (HAW.out _ HB1.out).mono ?_
  rintro e w2 ⟨rfl,hb⟩
  go_wp2
  go_ret
  exact ⟨rfl,below_up HB1.out hb⟩
 | false =>
  have HSM:=Lib.hid (HGS.out rfl)
  clear HGS
  go_wp2_with (refine wpList_load_rowG (by rfl) 36 _ rfl w.heap.size rfl 36 fc (0,0) _ KX.out.2 Tryz.underlying36 rfl HSZ.out ?_)
  refine (HG2.out _ HB1.out).mono ?_
  rintro e w2 ⟨⟨g,rfl,hg⟩,hb⟩
  have KX:=Lib.hid (KX.out.below hb)
  have HB2:=Lib.hid (below_up HB1.out hb)
  have HGS:=Lib.hid hg
  clear hb hg HG2
  cases g with
  | true =>
   go_wp2_with fail
   refine (HAW.out _ HB2.out).mono ?_
   rintro e w3 ⟨rfl,hb⟩
   go_wp2
   go_ret
   exact ⟨rfl,below_up HB2.out hb⟩
  | false =>
   have HST:=Lib.hid (HGS.out rfl)
   clear HGS
   have hlen:xs.length≤1003:=by rcases HSM.out.2 with h | h <;> omega
   have HL:Hid (LogAt w a c xs):=⟨HR.out,fun y hy=>⟨(HSM.out.1 y hy).small,(HF.out y hy).picks⟩,by omega,hcap⟩
   have HT:Hid (LogT w a c xs):=⟨HR.out,HSM.out.1,by omega,hcap⟩
   have HXO:Hid x.ok:=⟨HST.out.small,HFX.out.picks⟩
   have HAP:Hid (∀ W,Below w.heap.size w W→Calls Tryz.prog 15 #[.slice a xs.length c,.agg fc] W fun e w'=>(∃ a' c',e = .returned (.tuple #[.slice a' (appRow xs x).length c',.int .i64 (appErr (xs.map FactV.f) x.f)])∧Facts w' a' (appRow xs x)∧(appRow xs x).length≤c')∧Below W.heap.size W w'):=fun W hb=>by
    rw [HFC.out]
    exact append_any xs x a c W (HE.out.below hb) (HL.out.below hb) HXO.out (HBX.out.below hb)
   have HRA:Hid (∀ W,Below w.heap.size w W→Calls Tryz.prog 16 #[.slice a xs.length c,.agg fc] W fun e w'=>(∃ a' c',e = .returned (.tuple #[.slice a' (appRow xs x).length c',.int .i64 (appErr (xs.map FactV.f) x.f)])∧Facts w' a' (appRow xs x)∧(appRow xs x).length≤c')∧Below W.heap.size W w'):=fun W hb=>by
    rw [HFC.out]
    exact R14Append_any xs x a c W (HT.out.below hb) HST.out (HBX.out.below hb)
   have HKN:=Lib.hid (fun W hb=>known_any xs a c stamp W (HE.out.below hb) (HL.out.below hb))
   have HRK:=Lib.hid (fun W hb=>R14Known_any xs a c stamp W (HT.out.below hb))
   have HCK:=Lib.hid (fun W hb=>logCheck_any xs a c W (HE.out.below hb) HL.out.len (HL.out.below hb).facts HL.out.ok)
   have HRC:=Lib.hid (fun W hb=>R14Check_any xs a c W HT.out.len (HT.out.below hb).facts HT.out.tight)
   have HTR:=Lib.hid (appRow_tight HSM.out.1 HST.out)
   have HLR:Hid ((appRow xs x).length≤1000000):=Nat.le_trans appRow_len (by omega)
   have HSA:Hid (∀ W a1 c1 a2 c2,Facts W a1 (appRow xs x)→Facts W a2 (appRow xs x)→Calls Tryz.prog 19 #[.slice a1 (appRow xs x).length c1,.slice a2 (appRow xs x).length c2] W fun e w'=>e = .returned (.bool true)∧Below W.heap.size W w'):=fun W a1 c1 a2 c2 h1 h2=>RSameList_any _ _ a1 a2 c1 c2 W h1 h2 rfl (fun y hy=>(HTR.out y hy).sizes) HLR.out
   clear HR HF HFX HSM HL HT HXO HST HE HTR HLR
   generalize appRow xs x=rs at *
   generalize appErr (xs.map FactV.f) x.f=er at *
   obtain ⟨kv,hkv⟩:∃ kv:Int × Int,(if lcheck (xs.map FactV.f)=0 then Value.tuple #[.int .i64 (knownN (xs.map FactV.f) stamp:Nat),.int .i64 0] else .tuple #[.int .i64 0,.int .i64 1]) = .tuple #[.int .i64 kv.1,.int .i64 kv.2]:=by
    split
    ·exact ⟨(_,_),rfl⟩
    ·exact ⟨(0,1),rfl⟩
   rw [hkv] at HKN HRK
   generalize lcheck (xs.map FactV.f)=le at *
   obtain ⟨k1,k2⟩:=kv
   clear hkv
   generalize xs.length=n at *
   go_wp2_with (refine wpList_load_row rfl 36 _ rfl w.heap.size rfl 36 fc (0,0) _ KX.out.2 Tryz.underlying36 rfl HSZ.out ?_)
   refine (HAP.out _ HB2.out).mono ?_
   rintro e w3 ⟨⟨a1,c1,rfl,hf1,_⟩,hb⟩
   have KX:=Lib.hid (KX.out.below hb)
   have HB3:=Lib.hid (below_up HB2.out hb)
   have HF1:=Lib.hid hf1
   clear hb hf1 HAP
   go_wp2_with (refine wpList_load_row rfl 36 _ rfl w.heap.size rfl 36 fc (0,0) _ KX.out.2 Tryz.underlying36 rfl HSZ.out ?_)
   refine (HRA.out _ HB3.out).mono ?_
   rintro e w4 ⟨⟨a2,c2,rfl,hf2,_⟩,hb⟩
   have HB4:=Lib.hid (below_up HB3.out hb)
   have HF1:=Lib.hid (HF1.out.below hb)
   have HF2:=Lib.hid hf2
   clear hb hf2 HRA KX
   go_wp2_with fail
   refine (HKN.out _ HB4.out).mono ?_
   rintro e w5 ⟨rfl,hb⟩
   have HB5:=Lib.hid (below_up HB4.out hb)
   have HF1:=Lib.hid (HF1.out.below hb)
   have HF2:=Lib.hid (HF2.out.below hb)
   clear hb HKN
   go_wp2_with fail
   refine (HRK.out _ HB5.out).mono ?_
   rintro e w6 ⟨rfl,hb⟩
   have HB6:=Lib.hid (below_up HB5.out hb)
   have HF1:=Lib.hid (HF1.out.below hb)
   have HF2:=Lib.hid (HF2.out.below hb)
   clear hb HRK
   go_wp2_with fail
   refine (HCK.out _ HB6.out).mono ?_
   rintro e w7 ⟨rfl,hb⟩
   have HB7:=Lib.hid (below_up HB6.out hb)
   have HF1:=Lib.hid (HF1.out.below hb)
   have HF2:=Lib.hid (HF2.out.below hb)
   clear hb HCK
   go_wp2_with fail
   refine (HRC.out _ HB7.out).mono ?_
   rintro e w8 ⟨rfl,hb⟩
   have HB8:=Lib.hid (below_up HB7.out hb)
   have HF1:=Lib.hid (HF1.out.below hb)
   have HF2:=Lib.hid (HF2.out.below hb)
   clear hb HRC
   go_wp2_with fail
   refine (HSA.out _ a1 c1 a2 c2 HF1.out HF2.out).mono ?_
   rintro e w9 ⟨rfl,hb⟩
   have HB9:=Lib.hid (below_up HB8.out hb)
   clear hb HSA HF1 HF2
   go_wp2_with fail
   refine (HAW.out _ HB9.out).mono ?_
   rintro e w10 ⟨rfl,hb⟩
   go_wp2
   go_ret
   exact ⟨rfl,below_up HB9.out hb⟩
end Go.Proofs.YtgopbldkhlmbnaaGreatDoor
