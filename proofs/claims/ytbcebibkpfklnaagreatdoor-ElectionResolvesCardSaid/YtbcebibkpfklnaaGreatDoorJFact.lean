/- FactA FactP Picks Picks2 -/
import Derived.Test.YtbcebibkpfklnaaGreatDoorJFrac
import Derived.Test.YtbcebibkpfklnaaGreatDoorJNames
import Derived.Test.YtbcebibkpfklnaaGreatDoorJShelf
import Derived.Test.YtbcebibkpfklnaaGreatDoorJText
set_option maxHeartbeats 16000000
set_option maxRecDepth 100000
namespace Go.Proofs.YtbcebibkpfklnaaGreatDoor
section
open Go.RowKit Num
theorem factDigits_any (l:List UInt8) (w:World) :
  Calls Tryz.prog 114 #[.string ⟨l.toArray⟩] w fun e w'=>e = .returned (.int .i64 ((body l).length:Int))∧w=w':=by
 have H:=Lib.hid (Tryz.strings_TrimPrefix ⟨l.toArray⟩ ⟨#[45]⟩ w)
 have hb:=body_eq l
 have hlen:((⟨(body l).toArray⟩:ByteArray).size)=(body l).length:=str_size _
 have hbl:=body_le l
 rw [show (⟨l.toArray⟩:ByteArray).data.toList=l by simp,show (⟨#[45]⟩:ByteArray).data.toList=[45] from rfl,hb] at H
 generalize body l=b at *
 clear hb
 go_enter Tryz.func114,Tryz.ntmps114
 go_wp2_with fail
 refine H.out.mono ?_
 rintro e w' ⟨rfl,hw⟩
 subst hw
 go_wp2
 go_ret
 exact ⟨by first | rfl | simp [hlen],rfl⟩
def upC (c:UInt8):Bool:=decide (65≤c.toNat) && decide (c.toNat≤90)
def isCode (l:List UInt8):Bool:=decide (l.length=3) && l.all upC
def LETTERS:List UInt8:=[65,66,67,68,69,70,71,72,73,74,75,76,77,78,79,80,81,82,83,84,85,86,87,88,89,90]
theorem letters_contains (c:UInt8):LETTERS.contains c=upC c:=by
 have h:∀ n:Fin 256,LETTERS.contains (UInt8.ofNat n.1)=upC (UInt8.ofNat n.1):=by decide +kernel
 have h2:=h ⟨c.toNat,c.toNat_lt⟩
 simpa using h2
theorem trim_letters (l:List UInt8):Lib.trimS l LETTERS=[] ↔ l.all upC=true:=by
 rw [trimS_nil_iff]
 simp only [letters_contains]
theorem trimLetters (l:List UInt8) (w:World) (hl:l.length≤9000000000000000000) :
  Calls Tryz.prog 116 #[.string ⟨l.toArray⟩,.string ⟨#[65,66,67,68,69,70,71,72,73,74,75,76,77,78,79,80,81,82,83,84,85,86,87,88,89,90]⟩] w fun e w'=>e = .returned (.string ⟨(Lib.trimS l LETTERS).toArray⟩)∧Below w.heap.size w w' :=
 (Any.strings_Trim_laid Tryz.lays160 (by kernel_rfl) ⟨l.toArray⟩ ⟨LETTERS.toArray⟩ w (by rw [str_size];omega) (by decide) (ascii_of_all (by decide))).mono fun e w' ⟨he,hw⟩=>⟨by rw [he],hw⟩
theorem isCode_any (l:List UInt8) (w:World) (hl:l.length≤9000000000000000000) :
  Calls Tryz.prog 90 #[.string ⟨l.toArray⟩] w fun e w'=>e = .returned (.bool (isCode l))∧Below w.heap.size w w':=by
 have H:=Lib.hid (trimLetters l w hl)
 have ht:=trim_letters l
 have hlen:((⟨l.toArray⟩:ByteArray).size)=l.length:=str_size _
 generalize Lib.trimS l LETTERS=t at *
 by_cases h3:l.length=3
 ·have hc:isCode l=t.isEmpty:=by
   unfold isCode
   rw [h3]
   cases t with
   | nil=>simp [ht.1 rfl]
   | cons a b =>
    have:¬ l.all upC=true:=fun h=>by have:=ht.2 h;cases this
    simp [this]
  rw [hc]
  have h3':((l.length:Int) == 3)=true:=by simp;omega
  clear hc ht h3
  go_enter Tryz.func90,Tryz.ntmps90
  go_wp2_with fail
  refine H.out.mono ?_
  rintro e w' ⟨rfl,hb⟩
  cases ht2:t.isEmpty
  all_goals
   go_wp2
   go_ret
   exact ⟨by rw [ht2];rfl,hb⟩
 ·have hc:isCode l=false:=by unfold isCode;simp [h3]
  rw [hc]
  have h3':((l.length:Int) == 3)=false:=by simp;omega
  clear hc ht h3 H
  go_enter Tryz.func90,Tryz.ntmps90
  go_wp2
  go_ret
  exact ⟨rfl,Below.refl _ _⟩
theorem factWhole_any (l:List UInt8) (w:World) :
  Calls Tryz.prog 120 #[.string ⟨l.toArray⟩] w fun e w'=>e = .returned (.agg #[.string ⟨l.toArray⟩,.string ⟨#[]⟩])∧Below w.heap.size w w':=by
 go_enter Tryz.func120,Tryz.ntmps120
 go_wp2
 exact bodyPost_ret (v:=.agg #[.string ⟨l.toArray⟩,.string ⟨#[]⟩]) (by simp [results,Tryz.results120,go_sem]) rfl ⟨rfl,below_alloc w _⟩
theorem between_any (p q:Bool) (w:World) :
  Calls Tryz.prog 85 #[.bool p,.bool q] w fun e w'=>e = .returned (.func (.func 111) #[] #[.pointer (some ⟨w.heap.size,0,none⟩),.pointer (some ⟨w.heap.size+1,0,none⟩)])∧(w.alloc (.cells #[.bool p] 4)).alloc (.cells #[.bool q] 4)=w':=by
 go_enter Tryz.func85,Tryz.ntmps85
 go_wp2
 go_ret
 exact ⟨rfl,rfl⟩
theorem factLot_any (l:List UInt8) (w:World) (hE:Env w) (hl:l.length < 4294967281) :
  Calls Tryz.prog 117 #[.string ⟨l.toArray⟩] w fun e w'=>e = .returned (.bool (isId l))∧Below w.heap.size w w':=by
 have H1:=Lib.hid (cutSlash l w hE hl)
 have hc:=Lib.hid (show isId l=(isNum (Lib.cut l [47]).2.1 && isName (Lib.cut l [47]).1) from rfl)
 have hcl:=cut_len l
 generalize (Lib.cut l [47]).1=x at *
 generalize (Lib.cut l [47]).2.1=y at *
 generalize (Lib.cut l [47]).2.2=z at *
 generalize isId l=r at *
 have H4:=Lib.hid (fun W=>Name_any x W (by omega))
 have HE:=Lib.hid hE
 rcases Classical.em (∃ v,Lib.atoiAll y = .ok v) with ⟨v,hv⟩ | hv
 ·have H2:=Lib.hid (fun W (_:True)=>atoi_yes y v hv W (by omega))
  have hb:=atoi_bd hv
  have H3:=Lib.hid (fun W hW=>itoa_any v hb.1 hb.2 W hW)
  have hn:=Lib.hid (isNum_ok hv)
  clear hv hE
  obtain ⟨hbd1,hbd2⟩:=hb
  generalize isNum y=ny at *
  generalize isName x=nx at *
  generalize Lib.itoa v=t at *
  by_cases g1:1≤v <;> by_cases g2:v≤9999 <;> by_cases g3:t=y <;> cases nx
  all_goals try (exfalso;omega)
  all_goals
   go_enter Tryz.func117,Tryz.ntmps117
   go_wp2_with fail
   refine H1.out.mono ?_
   rintro e w1 ⟨rfl,hb1⟩
   go_wp2_with fail
   refine (H2.out _ trivial).mono ?_
   rintro e w2 ⟨rfl,hb2⟩
   go_wp2_with (first | (go_at_call 44;refine (H4.out _).mono ?_;rintro e w4 ⟨rfl,hb4⟩) | (go_at_call 149;refine (H3.out _ (HE.out.below (by first | exact below_up (below_up hb1 hb2) hb4 | exact below_up hb1 hb2))).mono ?_;rintro e w3 ⟨rfl,hb3⟩))
   go_ret
   refine ⟨ret_bool (by rw [hc.out,hn.out];simp [g1,g2,g3]),?_⟩
   first | exact below_up (below_up (below_up hb1 hb2) hb3) hb4 | exact below_up (below_up (below_up hb1 hb2) hb4) hb3 | exact below_up (below_up hb1 hb2) hb4 | exact below_up (below_up hb1 hb2) hb3 | exact below_up hb1 hb2
 ·have hv':∀ v,Lib.atoiAll y ≠ .ok v:=fun v h=>hv ⟨v,h⟩
  have H2:=Lib.hid (fun W hW=>atoi_no y hv' W hW (by omega))
  have hn:=Lib.hid (isNum_bad hv')
  have H3:True:=trivial
  clear hv hv' hE
  generalize isNum y=ny at *
  generalize isName x=nx at *
  cases nx
  all_goals
   go_enter Tryz.func117,Tryz.ntmps117
   go_wp2_with fail
   refine H1.out.mono ?_
   rintro e w1 ⟨rfl,hb1⟩
   go_wp2_with fail
   refine (H2.out _ (HE.out.below hb1)).mono ?_
   rintro e w2 ⟨n,p,rfl,hb2⟩
   go_wp2_with (first | (go_at_call 44;refine (H4.out _).mono ?_;rintro e w4 ⟨rfl,hb4⟩) | (go_at_call 149;skip))
   go_ret
   refine ⟨ret_bool (by rw [hc.out,hn.out];simp),?_⟩
   first | exact below_up (below_up (below_up hb1 hb2) hb3) hb4 | exact below_up (below_up (below_up hb1 hb2) hb4) hb3 | exact below_up (below_up hb1 hb2) hb4 | exact below_up (below_up hb1 hb2) hb3 | exact below_up hb1 hb2
def fsign (n d:List UInt8):Int:=cmpI (rnum (subN n d [] []) (subD d [])) 0
def fover (n d:List UInt8):Int:=cmpI (rnum (subN n d [49] []) (subD d [])) 0
def lim (p q:Bool) (n d:List UInt8):Int :=
 if fok n d=false then 1 else if 40 < (body n).length∨40 < (body d).length then 4
 else if fsign n d < 0∨(p=true∧fsign n d=0)∨(q=true∧0 < fover n d) then 2 else 0
theorem lim_tf (n d:List UInt8) (bp bq:Nat) (T T':TypeId) (w:World) (hE:Env w) (hn:n.length≤60) (hd:d.length≤60) (hp:Box w bp #[.bool true] T) (hq:Box w bq #[.bool false] T') :
  Calls Tryz.prog 111 #[.agg #[.string ⟨n.toArray⟩,.string ⟨d.toArray⟩],.pointer (some ⟨bp,0,none⟩),.pointer (some ⟨bq,0,none⟩)] w fun e w'=>e = .returned (.int .i64 (lim true false n d))∧Below w.heap.size w w':=by
 have HE:=Lib.hid hE
 have HC:=Lib.hid (fun W hE=>fracCompare_any n d [] [] W hE hn hd (by simp) (by simp))
 rw [show cmpI (rnum (subN n d [] []) (subD d [])) 0=fsign n d from rfl] at HC
 have HO:=Lib.hid (fun W hE=>fracCompare_any n d [49] [] W hE hn hd (by simp) (by simp))
 rw [show cmpI (rnum (subN n d [49] []) (subD d [])) 0=fover n d from rfl] at HO
 have HK:=Lib.hid (fun W hE=>fracCheck_any n d W hE (by omega) (by omega))
 have H1:=Lib.hid (fun W=>factDigits_any n W)
 have H2:=Lib.hid (fun W=>factDigits_any d W)
 unfold lim
 generalize fsign n d=sg at *
 generalize fover n d=ov at *
 generalize (body n).length=ln at *
 generalize (body d).length=ld at *
 have HBP:=Lib.hid hp
 have HBQ:=Lib.hid hq
 clear hE hp hq
 have HB0:=Lib.hid (Box.new0 w #[.string ⟨n.toArray⟩,.string ⟨d.toArray⟩] 26)
 have HBw:=Lib.hid (below_alloc w (.cells #[.string ⟨n.toArray⟩,.string ⟨d.toArray⟩] 26))
 cases hf:fok n d
 ·rw [hf] at HK
  rw [if_pos rfl]
  clear hf
  go_enter Tryz.func111,Tryz.ntmps111
  go_wp2_with fail
  refine (HC.out _ (HE.out.below HBw.out)).mono ?_
  rintro e w1 ⟨rfl,hb1⟩
  have KB:=HB0.out.below hb1
  have k0:=KB.cell 0
  have k1:=KB.cell 1
  have B1:=below_up HBw.out hb1
  go_wp2_with fail
  refine (HK.out _ (HE.out.below B1)).mono ?_
  rintro e w2 ⟨rfl,hb2⟩
  go_wp2
  go_ret
  exact ⟨rfl,below_up B1 hb2⟩
 rw [hf] at HK
 rw [if_neg (by simp)]
 clear hf
 by_cases hl:40 < ln∨40 < ld
 ·rw [if_pos hl]
  by_cases h1:40 < ln
  ·have h1':(40:Int) < ln:=by omega
   clear hl
   go_enter Tryz.func111,Tryz.ntmps111
   go_wp2_with fail
   refine (HC.out _ (HE.out.below HBw.out)).mono ?_
   rintro e w1 ⟨rfl,hb1⟩
   have KB:=HB0.out.below hb1
   have k0:=KB.cell 0
   have k1:=KB.cell 1
   have B1:=below_up HBw.out hb1
   go_wp2_with fail
   refine (HK.out _ (HE.out.below B1)).mono ?_
   rintro e w2 ⟨rfl,hb2⟩
   have KB:=KB.below hb2
   have k0:=KB.cell 0
   have k1:=KB.cell 1
   go_wp2_with fail
   refine (H1.out _).mono ?_
   rintro e w3 ⟨rfl,rfl⟩
   go_wp2
   go_ret
   exact ⟨rfl,below_up B1 hb2⟩
  ·have h1':¬ (40:Int) < ln:=by omega
   have h2':(40:Int) < ld:=by omega
   clear hl
   go_enter Tryz.func111,Tryz.ntmps111
   go_wp2_with fail
   refine (HC.out _ (HE.out.below HBw.out)).mono ?_
   rintro e w1 ⟨rfl,hb1⟩
   have KB:=HB0.out.below hb1
   have k0:=KB.cell 0
   have k1:=KB.cell 1
   have B1:=below_up HBw.out hb1
   go_wp2_with fail
   refine (HK.out _ (HE.out.below B1)).mono ?_
   rintro e w2 ⟨rfl,hb2⟩
   have KB:=KB.below hb2
   have k0:=KB.cell 0
   have k1:=KB.cell 1
   go_wp2_with fail
   refine (H1.out _).mono ?_
   rintro e w3 ⟨rfl,rfl⟩
   go_wp2_with fail
   refine (H2.out _).mono ?_
   rintro e w3 ⟨rfl,rfl⟩
   go_wp2
   go_ret
   exact ⟨rfl,below_up B1 hb2⟩
 rw [if_neg hl]
 have h1':¬ (40:Int) < ln:=by omega
 have h2':¬ (40:Int) < ld:=by omega
 clear hl
 rcases (show sg < 0∨(¬ sg < 0∧sg=0)∨(¬ sg < 0∧¬ sg=0) by omega) with h | ⟨h,h'⟩ | ⟨h,h'⟩
 ·have s1:decide (sg < 0)=true:=by simp [h]
  rw [if_pos (by simp [h])]
  go_enter Tryz.func111,Tryz.ntmps111
  go_wp2_with fail
  refine (HC.out _ (HE.out.below HBw.out)).mono ?_
  rintro e w1 ⟨rfl,hb1⟩
  have KB:=HB0.out.below hb1
  have k0:=KB.cell 0
  have k1:=KB.cell 1
  have B1:=below_up HBw.out hb1
  go_wp2_with fail
  refine (HK.out _ (HE.out.below B1)).mono ?_
  rintro e w2 ⟨rfl,hb2⟩
  have KB:=KB.below hb2
  have k0:=KB.cell 0
  have k1:=KB.cell 1
  have B2:=below_up B1 hb2
  have kp:=(HBP.out.below B2).cell 0
  have kq:=(HBQ.out.below B2).cell 0
  go_wp2_with fail
  refine (H1.out _).mono ?_
  rintro e w3 ⟨rfl,rfl⟩
  go_wp2_with fail
  refine (H2.out _).mono ?_
  rintro e w3 ⟨rfl,rfl⟩
  go_wp2_with fail
  go_quiet (fail)
  go_wp2
  go_ret
  exact ⟨rfl,below_drewN B2 _⟩
 ·have s1:decide (sg < 0)=false:=by simp;omega
  have s2:(sg == 0)=true:=by simp [h']
  rw [if_pos (by simp [h'])]
  clear h h'
  go_enter Tryz.func111,Tryz.ntmps111
  go_wp2_with fail
  refine (HC.out _ (HE.out.below HBw.out)).mono ?_
  rintro e w1 ⟨rfl,hb1⟩
  have KB:=HB0.out.below hb1
  have k0:=KB.cell 0
  have k1:=KB.cell 1
  have B1:=below_up HBw.out hb1
  go_wp2_with fail
  refine (HK.out _ (HE.out.below B1)).mono ?_
  rintro e w2 ⟨rfl,hb2⟩
  have KB:=KB.below hb2
  have k0:=KB.cell 0
  have k1:=KB.cell 1
  have B2:=below_up B1 hb2
  have kp:=(HBP.out.below B2).cell 0
  have kq:=(HBQ.out.below B2).cell 0
  go_wp2_with fail
  refine (H1.out _).mono ?_
  rintro e w3 ⟨rfl,rfl⟩
  go_wp2_with fail
  refine (H2.out _).mono ?_
  rintro e w3 ⟨rfl,rfl⟩
  go_wp2_with fail
  go_quiet (fail)
  go_wp2
  go_ret
  exact ⟨rfl,below_drewN B2 _⟩
 ·have s1:decide (sg < 0)=false:=by simp;omega
  have s2:(sg == 0)=false:=by simp [h']
  rw [if_neg (by simp [h',h])]
  clear h h'
  go_enter Tryz.func111,Tryz.ntmps111
  go_wp2_with fail
  refine (HC.out _ (HE.out.below HBw.out)).mono ?_
  rintro e w1 ⟨rfl,hb1⟩
  have KB:=HB0.out.below hb1
  have k0:=KB.cell 0
  have k1:=KB.cell 1
  have B1:=below_up HBw.out hb1
  go_wp2_with fail
  refine (HK.out _ (HE.out.below B1)).mono ?_
  rintro e w2 ⟨rfl,hb2⟩
  have KB:=KB.below hb2
  have k0:=KB.cell 0
  have k1:=KB.cell 1
  have B2:=below_up B1 hb2
  have kp:=(HBP.out.below B2).cell 0
  have kq:=(HBQ.out.below B2).cell 0
  go_wp2_with fail
  refine (H1.out _).mono ?_
  rintro e w3 ⟨rfl,rfl⟩
  go_wp2_with fail
  refine (H2.out _).mono ?_
  rintro e w3 ⟨rfl,rfl⟩
  go_wp2_with fail
  go_quiet (fail)
  go_wp2
  go_ret
  exact ⟨rfl,below_drewN B2 _⟩
theorem lim_ff (n d:List UInt8) (bp bq:Nat) (T T':TypeId) (w:World) (hE:Env w) (hn:n.length≤60) (hd:d.length≤60) (hp:Box w bp #[.bool false] T) (hq:Box w bq #[.bool false] T') :
  Calls Tryz.prog 111 #[.agg #[.string ⟨n.toArray⟩,.string ⟨d.toArray⟩],.pointer (some ⟨bp,0,none⟩),.pointer (some ⟨bq,0,none⟩)] w fun e w'=>e = .returned (.int .i64 (lim false false n d))∧Below w.heap.size w w':=by
 have HE:=Lib.hid hE
 have HC:=Lib.hid (fun W hE=>fracCompare_any n d [] [] W hE hn hd (by simp) (by simp))
 rw [show cmpI (rnum (subN n d [] []) (subD d [])) 0=fsign n d from rfl] at HC
 have HO:=Lib.hid (fun W hE=>fracCompare_any n d [49] [] W hE hn hd (by simp) (by simp))
 rw [show cmpI (rnum (subN n d [49] []) (subD d [])) 0=fover n d from rfl] at HO
 have HK:=Lib.hid (fun W hE=>fracCheck_any n d W hE (by omega) (by omega))
 have H1:=Lib.hid (fun W=>factDigits_any n W)
 have H2:=Lib.hid (fun W=>factDigits_any d W)
 unfold lim
 generalize fsign n d=sg at *
 generalize fover n d=ov at *
 generalize (body n).length=ln at *
 generalize (body d).length=ld at *
 have HBP:=Lib.hid hp
 have HBQ:=Lib.hid hq
 clear hE hp hq
 have HB0:=Lib.hid (Box.new0 w #[.string ⟨n.toArray⟩,.string ⟨d.toArray⟩] 26)
 have HBw:=Lib.hid (below_alloc w (.cells #[.string ⟨n.toArray⟩,.string ⟨d.toArray⟩] 26))
 cases hf:fok n d
 ·rw [hf] at HK
  rw [if_pos rfl]
  clear hf
  go_enter Tryz.func111,Tryz.ntmps111
  go_wp2_with fail
  refine (HC.out _ (HE.out.below HBw.out)).mono ?_
  rintro e w1 ⟨rfl,hb1⟩
  have KB:=HB0.out.below hb1
  have k0:=KB.cell 0
  have k1:=KB.cell 1
  have B1:=below_up HBw.out hb1
  go_wp2_with fail
  refine (HK.out _ (HE.out.below B1)).mono ?_
  rintro e w2 ⟨rfl,hb2⟩
  go_wp2
  go_ret
  exact ⟨rfl,below_up B1 hb2⟩
 rw [hf] at HK
 rw [if_neg (by simp)]
 clear hf
 by_cases hl:40 < ln∨40 < ld
 ·rw [if_pos hl]
  by_cases h1:40 < ln
  ·have h1':(40:Int) < ln:=by omega
   clear hl
   go_enter Tryz.func111,Tryz.ntmps111
   go_wp2_with fail
   refine (HC.out _ (HE.out.below HBw.out)).mono ?_
   rintro e w1 ⟨rfl,hb1⟩
   have KB:=HB0.out.below hb1
   have k0:=KB.cell 0
   have k1:=KB.cell 1
   have B1:=below_up HBw.out hb1
   go_wp2_with fail
   refine (HK.out _ (HE.out.below B1)).mono ?_
   rintro e w2 ⟨rfl,hb2⟩
   have KB:=KB.below hb2
   have k0:=KB.cell 0
   have k1:=KB.cell 1
   go_wp2_with fail
   refine (H1.out _).mono ?_
   rintro e w3 ⟨rfl,rfl⟩
   go_wp2
   go_ret
   exact ⟨rfl,below_up B1 hb2⟩
  ·have h1':¬ (40:Int) < ln:=by omega
   have h2':(40:Int) < ld:=by omega
   clear hl
   go_enter Tryz.func111,Tryz.ntmps111
   go_wp2_with fail
   refine (HC.out _ (HE.out.below HBw.out)).mono ?_
   rintro e w1 ⟨rfl,hb1⟩
   have KB:=HB0.out.below hb1
   have k0:=KB.cell 0
   have k1:=KB.cell 1
   have B1:=below_up HBw.out hb1
   go_wp2_with fail
   refine (HK.out _ (HE.out.below B1)).mono ?_
   rintro e w2 ⟨rfl,hb2⟩
   have KB:=KB.below hb2
   have k0:=KB.cell 0
   have k1:=KB.cell 1
   go_wp2_with fail
   refine (H1.out _).mono ?_
   rintro e w3 ⟨rfl,rfl⟩
   go_wp2_with fail
   refine (H2.out _).mono ?_
   rintro e w3 ⟨rfl,rfl⟩
   go_wp2
   go_ret
   exact ⟨rfl,below_up B1 hb2⟩
 rw [if_neg hl]
 have h1':¬ (40:Int) < ln:=by omega
 have h2':¬ (40:Int) < ld:=by omega
 clear hl
 rcases (show sg < 0∨¬ sg < 0 by omega) with h | h
 ·have s1:decide (sg < 0)=true:=by simp [h]
  rw [if_pos (by simp [h])]
  go_enter Tryz.func111,Tryz.ntmps111
  go_wp2_with fail
  refine (HC.out _ (HE.out.below HBw.out)).mono ?_
  rintro e w1 ⟨rfl,hb1⟩
  have KB:=HB0.out.below hb1
  have k0:=KB.cell 0
  have k1:=KB.cell 1
  have B1:=below_up HBw.out hb1
  go_wp2_with fail
  refine (HK.out _ (HE.out.below B1)).mono ?_
  rintro e w2 ⟨rfl,hb2⟩
  have KB:=KB.below hb2
  have k0:=KB.cell 0
  have k1:=KB.cell 1
  have B2:=below_up B1 hb2
  have kp:=(HBP.out.below B2).cell 0
  have kq:=(HBQ.out.below B2).cell 0
  go_wp2_with fail
  refine (H1.out _).mono ?_
  rintro e w3 ⟨rfl,rfl⟩
  go_wp2_with fail
  refine (H2.out _).mono ?_
  rintro e w3 ⟨rfl,rfl⟩
  go_wp2_with fail
  go_quiet (fail)
  go_wp2
  go_ret
  exact ⟨rfl,below_drewN B2 _⟩
 ·have s1:decide (sg < 0)=false:=by simp;omega
  rw [if_neg (by simp;omega)]
  clear h
  go_enter Tryz.func111,Tryz.ntmps111
  go_wp2_with fail
  refine (HC.out _ (HE.out.below HBw.out)).mono ?_
  rintro e w1 ⟨rfl,hb1⟩
  have KB:=HB0.out.below hb1
  have k0:=KB.cell 0
  have k1:=KB.cell 1
  have B1:=below_up HBw.out hb1
  go_wp2_with fail
  refine (HK.out _ (HE.out.below B1)).mono ?_
  rintro e w2 ⟨rfl,hb2⟩
  have KB:=KB.below hb2
  have k0:=KB.cell 0
  have k1:=KB.cell 1
  have B2:=below_up B1 hb2
  have kp:=(HBP.out.below B2).cell 0
  have kq:=(HBQ.out.below B2).cell 0
  go_wp2_with fail
  refine (H1.out _).mono ?_
  rintro e w3 ⟨rfl,rfl⟩
  go_wp2_with fail
  refine (H2.out _).mono ?_
  rintro e w3 ⟨rfl,rfl⟩
  go_wp2_with fail
  go_quiet (fail)
  go_wp2
  go_ret
  exact ⟨rfl,below_drewN B2 _⟩
theorem lim_ft (n d:List UInt8) (bp bq:Nat) (T T':TypeId) (w:World) (hE:Env w) (hn:n.length≤60) (hd:d.length≤60) (hp:Box w bp #[.bool false] T) (hq:Box w bq #[.bool true] T') :
  Calls Tryz.prog 111 #[.agg #[.string ⟨n.toArray⟩,.string ⟨d.toArray⟩],.pointer (some ⟨bp,0,none⟩),.pointer (some ⟨bq,0,none⟩)] w fun e w'=>e = .returned (.int .i64 (lim false true n d))∧Below w.heap.size w w':=by
 have HE:=Lib.hid hE
 have HC:=Lib.hid (fun W hE=>fracCompare_any n d [] [] W hE hn hd (by simp) (by simp))
 rw [show cmpI (rnum (subN n d [] []) (subD d [])) 0=fsign n d from rfl] at HC
 have HO:=Lib.hid (fun W hE=>fracCompare_any n d [49] [] W hE hn hd (by simp) (by simp))
 rw [show cmpI (rnum (subN n d [49] []) (subD d [])) 0=fover n d from rfl] at HO
 have HK:=Lib.hid (fun W hE=>fracCheck_any n d W hE (by omega) (by omega))
 have H1:=Lib.hid (fun W=>factDigits_any n W)
 have H2:=Lib.hid (fun W=>factDigits_any d W)
 unfold lim
 generalize fsign n d=sg at *
 generalize fover n d=ov at *
 generalize (body n).length=ln at *
 generalize (body d).length=ld at *
 have HBP:=Lib.hid hp
 have HBQ:=Lib.hid hq
 clear hE hp hq
 have HB0:=Lib.hid (Box.new0 w #[.string ⟨n.toArray⟩,.string ⟨d.toArray⟩] 26)
 have HBw:=Lib.hid (below_alloc w (.cells #[.string ⟨n.toArray⟩,.string ⟨d.toArray⟩] 26))
 cases hf:fok n d
 ·rw [hf] at HK
  rw [if_pos rfl]
  clear hf
  go_enter Tryz.func111,Tryz.ntmps111
  go_wp2_with fail
  refine (HC.out _ (HE.out.below HBw.out)).mono ?_
  rintro e w1 ⟨rfl,hb1⟩
  have KB:=HB0.out.below hb1
  have k0:=KB.cell 0
  have k1:=KB.cell 1
  have B1:=below_up HBw.out hb1
  go_wp2_with fail
  refine (HK.out _ (HE.out.below B1)).mono ?_
  rintro e w2 ⟨rfl,hb2⟩
  go_wp2
  go_ret
  exact ⟨rfl,below_up B1 hb2⟩
 rw [hf] at HK
 rw [if_neg (by simp)]
 clear hf
 by_cases hl:40 < ln∨40 < ld
 ·rw [if_pos hl]
  by_cases h1:40 < ln
  ·have h1':(40:Int) < ln:=by omega
   clear hl
   go_enter Tryz.func111,Tryz.ntmps111
   go_wp2_with fail
   refine (HC.out _ (HE.out.below HBw.out)).mono ?_
   rintro e w1 ⟨rfl,hb1⟩
   have KB:=HB0.out.below hb1
   have k0:=KB.cell 0
   have k1:=KB.cell 1
   have B1:=below_up HBw.out hb1
   go_wp2_with fail
   refine (HK.out _ (HE.out.below B1)).mono ?_
   rintro e w2 ⟨rfl,hb2⟩
   have KB:=KB.below hb2
   have k0:=KB.cell 0
   have k1:=KB.cell 1
   go_wp2_with fail
   refine (H1.out _).mono ?_
   rintro e w3 ⟨rfl,rfl⟩
   go_wp2
   go_ret
   exact ⟨rfl,below_up B1 hb2⟩
  ·have h1':¬ (40:Int) < ln:=by omega
   have h2':(40:Int) < ld:=by omega
   clear hl
   go_enter Tryz.func111,Tryz.ntmps111
   go_wp2_with fail
   refine (HC.out _ (HE.out.below HBw.out)).mono ?_
   rintro e w1 ⟨rfl,hb1⟩
   have KB:=HB0.out.below hb1
   have k0:=KB.cell 0
   have k1:=KB.cell 1
   have B1:=below_up HBw.out hb1
   go_wp2_with fail
   refine (HK.out _ (HE.out.below B1)).mono ?_
   rintro e w2 ⟨rfl,hb2⟩
   have KB:=KB.below hb2
   have k0:=KB.cell 0
   have k1:=KB.cell 1
   go_wp2_with fail
   refine (H1.out _).mono ?_
   rintro e w3 ⟨rfl,rfl⟩
   go_wp2_with fail
   refine (H2.out _).mono ?_
   rintro e w3 ⟨rfl,rfl⟩
   go_wp2
   go_ret
   exact ⟨rfl,below_up B1 hb2⟩
 rw [if_neg hl]
 have h1':¬ (40:Int) < ln:=by omega
 have h2':¬ (40:Int) < ld:=by omega
 clear hl
 rcases (show sg < 0∨(¬ sg < 0∧0 < ov)∨(¬ sg < 0∧¬ 0 < ov) by omega) with h | ⟨h,h'⟩ | ⟨h,h'⟩
 ·have s1:decide (sg < 0)=true:=by simp [h]
  rw [if_pos (by simp [h])]
  go_enter Tryz.func111,Tryz.ntmps111
  go_wp2_with fail
  refine (HC.out _ (HE.out.below HBw.out)).mono ?_
  rintro e w1 ⟨rfl,hb1⟩
  have KB:=HB0.out.below hb1
  have k0:=KB.cell 0
  have k1:=KB.cell 1
  have B1:=below_up HBw.out hb1
  go_wp2_with fail
  refine (HK.out _ (HE.out.below B1)).mono ?_
  rintro e w2 ⟨rfl,hb2⟩
  have KB:=KB.below hb2
  have k0:=KB.cell 0
  have k1:=KB.cell 1
  have B2:=below_up B1 hb2
  have kp:=(HBP.out.below B2).cell 0
  have kq:=(HBQ.out.below B2).cell 0
  go_wp2_with fail
  refine (H1.out _).mono ?_
  rintro e w3 ⟨rfl,rfl⟩
  go_wp2_with fail
  refine (H2.out _).mono ?_
  rintro e w3 ⟨rfl,rfl⟩
  go_wp2_with fail
  go_quiet (fail)
  go_wp2
  go_ret
  exact ⟨rfl,below_drewN B2 _⟩
 ·have s1:decide (sg < 0)=false:=by simp;omega
  rw [if_pos (by simp [h'])]
  clear h
  go_enter Tryz.func111,Tryz.ntmps111
  go_wp2_with fail
  refine (HC.out _ (HE.out.below HBw.out)).mono ?_
  rintro e w1 ⟨rfl,hb1⟩
  have KB:=HB0.out.below hb1
  have k0:=KB.cell 0
  have k1:=KB.cell 1
  have B1:=below_up HBw.out hb1
  go_wp2_with fail
  refine (HK.out _ (HE.out.below B1)).mono ?_
  rintro e w2 ⟨rfl,hb2⟩
  have KB:=KB.below hb2
  have k0:=KB.cell 0
  have k1:=KB.cell 1
  have B2:=below_up B1 hb2
  have kp:=(HBP.out.below B2).cell 0
  have kq:=(HBQ.out.below B2).cell 0
  go_wp2_with fail
  refine (H1.out _).mono ?_
  rintro e w3 ⟨rfl,rfl⟩
  go_wp2_with fail
  refine (H2.out _).mono ?_
  rintro e w3 ⟨rfl,rfl⟩
  go_wp2_with fail
  have HBc:Below w.heap.size w w2.drew:=below_drewN B2 1
  have KX:Box w2.drew w.heap.size #[.string ⟨n.toArray⟩,.string ⟨d.toArray⟩] _:=KB
  have KP:Box w2.drew bp #[.bool false] T:=HBP.out.below HBc
  have KQ:Box w2.drew bq #[.bool true] T':=HBQ.out.below HBc
  refine wp_region_held_drew (S:=fun W=>W.cell? ⟨w.heap.size,0,none⟩=some (.string ⟨n.toArray⟩)∧W.cell? ⟨w.heap.size,1,none⟩=some (.string ⟨d.toArray⟩)∧W.cell? ⟨bp,0,none⟩=some (.bool false)∧W.cell? ⟨bq,0,none⟩=some (.bool true)) (by kernel_rfl) ?hS1 (fun hHeld => ?hR1)
  case hS1=>exact ⟨KX.cell 0,KX.cell 1,KP.cell 0,KQ.cell 0⟩
  refine tk 0 (some 25) (?v2) rfl rfl ?hy2 ?hR2
  case hy2=>(intro w hSw;(try dsimp only at hSw);go_simp;try rfl)
  simp only [pS]
  refine tk 1 (some 26) (?v3) rfl rfl ?hy3 ?hR3
  case hy3=>(intro w hSw;(try dsimp only at hSw);go_simp;try rfl)
  simp only [pS]
  refine tk 2 (some 27) (?v4) rfl rfl ?hy4 ?hR4
  case hy4=>(intro w hSw;(try dsimp only at hSw);go_simp;try rfl)
  simp only [pS]
  refine tk 3 (some 28) (?v5) rfl rfl ?hy5 ?hR5
  case hy5=>(intro w hSw;(try dsimp only at hSw);go_simp;try rfl)
  simp only [pS]
  refine tk 4 (some 29) (?v6) rfl rfl ?hy6 ?hR6
  case hy6=>(intro w hSw;(try dsimp only at hSw);go_simp;try rfl)
  simp only [pS]
  refine tu 5 (some 30) rfl rfl ?_
  simp only [pS]
  refine tu 6 (some 31) rfl rfl ?_
  simp only [pS]
  refine tk 7 (some 32) (?v7) rfl rfl ?hy7 ?hR7
  case hy7=>(intro w hSw;(try dsimp only at hSw);go_simp;try rfl)
  simp only [pS]
  refine tk 8 (some 33) (?v8) rfl rfl ?hy8 ?hR8
  case hy8=>(intro w hSw;(try dsimp only at hSw);go_simp;try rfl)
  simp only [pS]
  refine tk 9 (some 34) (?v9) rfl rfl ?hy9 ?hR9
  case hy9=>(intro w hSw;(try dsimp only at hSw);go_simp;try rfl)
  simp only [pS]
  refine tk 10 (some 35) (?v10) rfl rfl ?hy10 ?hR10
  case hy10=>(intro w hSw;(try dsimp only at hSw);go_simp;try rfl)
  simp only [pS]
  refine tk 11 (some 36) (?v11) rfl rfl ?hy11 ?hR11
  case hy11=>(intro w hSw;(try dsimp only at hSw);go_simp;try rfl)
  simp only [pS]
  refine tk 12 (some 37) (?v12) rfl rfl ?hy12 ?hR12
  case hy12=>(intro w hSw;(try dsimp only at hSw);go_simp;try rfl)
  simp only [pS]
  refine wpAnyH_ready (rs:=[13]) (by kernel_rfl) (by simp) ?_
  refine AllReadyH.cons (o:=_) rfl (fun K hK => ?hC13) AllReadyH.nil
  rw [if_pos (by rfl)]
  go_simp
  go_at_call 115
  refine (fracOf_one _ (HE.out.below HBc)).mono ?_
  rintro e wn ⟨rfl,hbn⟩
  replace HBc:=below_up HBc hbn
  replace KX:=KX.below hbn
  replace KP:=KP.below hbn
  replace KQ:=KQ.below hbn
  clear hbn
  go_wp2_with fail
  refine hK.out _ _ ?hS13 (fun hHeld => ?hR13)
  case hS13=>exact ⟨KX.cell 0,KX.cell 1,KP.cell 0,KQ.cell 0⟩
  try simp only [pS]
  refine wpAnyH_ready (rs:=[14]) (by kernel_rfl) (by simp) ?_
  refine AllReadyH.cons (o:=_) rfl (fun K hK => ?hC14) AllReadyH.nil
  rw [if_pos (by rfl)]
  go_simp
  go_at_call 112
  refine (HO.out _ (HE.out.below HBc)).mono ?_
  rintro e wn ⟨rfl,hbn⟩
  replace HBc:=below_up HBc hbn
  replace KX:=KX.below hbn
  replace KP:=KP.below hbn
  replace KQ:=KQ.below hbn
  clear hbn
  go_wp2_with fail
  refine hK.out _ _ ?hS14 (fun hHeld => ?hR14)
  case hS14=>exact ⟨KX.cell 0,KX.cell 1,KP.cell 0,KQ.cell 0⟩
  try simp only [pS]
  refine tk 15 (some 40) (?v15) rfl rfl ?hy15 ?hR15
  case hy15=>(intro w hSw;(try dsimp only at hSw);go_simp;try rfl)
  simp only [pS]
  refine tk 16 (some 41) (?v16) rfl rfl ?hy16 ?hR16
  case hy16=>(intro w hSw;(try dsimp only at hSw);go_simp;try rfl)
  simp only [pS]
  refine tk 17 (some 42) (?v17) rfl rfl ?hy17 ?hR17
  case hy17=>(intro w hSw;(try dsimp only at hSw);go_simp;try rfl)
  simp only [pS]
  refine tk 18 (some 24) (?v18) rfl rfl ?hy18 ?hR18
  case hy18=>(intro w hSw;(try dsimp only at hSw);go_simp;try rfl)
  simp only [pS]
  refine wpAnyH_done (by kernel_rfl) ?_ _
  go_wp2
  go_ret
  exact ⟨rfl,HBc⟩
 ·have s1:decide (sg < 0)=false:=by simp;omega
  rw [if_neg (by simp;omega)]
  clear h
  go_enter Tryz.func111,Tryz.ntmps111
  go_wp2_with fail
  refine (HC.out _ (HE.out.below HBw.out)).mono ?_
  rintro e w1 ⟨rfl,hb1⟩
  have KB:=HB0.out.below hb1
  have k0:=KB.cell 0
  have k1:=KB.cell 1
  have B1:=below_up HBw.out hb1
  go_wp2_with fail
  refine (HK.out _ (HE.out.below B1)).mono ?_
  rintro e w2 ⟨rfl,hb2⟩
  have KB:=KB.below hb2
  have k0:=KB.cell 0
  have k1:=KB.cell 1
  have B2:=below_up B1 hb2
  have kp:=(HBP.out.below B2).cell 0
  have kq:=(HBQ.out.below B2).cell 0
  go_wp2_with fail
  refine (H1.out _).mono ?_
  rintro e w3 ⟨rfl,rfl⟩
  go_wp2_with fail
  refine (H2.out _).mono ?_
  rintro e w3 ⟨rfl,rfl⟩
  go_wp2_with fail
  have HBc:Below w.heap.size w w2.drew:=below_drewN B2 1
  have KX:Box w2.drew w.heap.size #[.string ⟨n.toArray⟩,.string ⟨d.toArray⟩] _:=KB
  have KP:Box w2.drew bp #[.bool false] T:=HBP.out.below HBc
  have KQ:Box w2.drew bq #[.bool true] T':=HBQ.out.below HBc
  refine wp_region_held_drew (S:=fun W=>W.cell? ⟨w.heap.size,0,none⟩=some (.string ⟨n.toArray⟩)∧W.cell? ⟨w.heap.size,1,none⟩=some (.string ⟨d.toArray⟩)∧W.cell? ⟨bp,0,none⟩=some (.bool false)∧W.cell? ⟨bq,0,none⟩=some (.bool true)) (by kernel_rfl) ?hS19 (fun hHeld => ?hR19)
  case hS19=>exact ⟨KX.cell 0,KX.cell 1,KP.cell 0,KQ.cell 0⟩
  refine tk 0 (some 25) (?v20) rfl rfl ?hy20 ?hR20
  case hy20=>(intro w hSw;(try dsimp only at hSw);go_simp;try rfl)
  simp only [pS]
  refine tk 1 (some 26) (?v21) rfl rfl ?hy21 ?hR21
  case hy21=>(intro w hSw;(try dsimp only at hSw);go_simp;try rfl)
  simp only [pS]
  refine tk 2 (some 27) (?v22) rfl rfl ?hy22 ?hR22
  case hy22=>(intro w hSw;(try dsimp only at hSw);go_simp;try rfl)
  simp only [pS]
  refine tk 3 (some 28) (?v23) rfl rfl ?hy23 ?hR23
  case hy23=>(intro w hSw;(try dsimp only at hSw);go_simp;try rfl)
  simp only [pS]
  refine tk 4 (some 29) (?v24) rfl rfl ?hy24 ?hR24
  case hy24=>(intro w hSw;(try dsimp only at hSw);go_simp;try rfl)
  simp only [pS]
  refine tu 5 (some 30) rfl rfl ?_
  simp only [pS]
  refine tu 6 (some 31) rfl rfl ?_
  simp only [pS]
  refine tk 7 (some 32) (?v25) rfl rfl ?hy25 ?hR25
  case hy25=>(intro w hSw;(try dsimp only at hSw);go_simp;try rfl)
  simp only [pS]
  refine tk 8 (some 33) (?v26) rfl rfl ?hy26 ?hR26
  case hy26=>(intro w hSw;(try dsimp only at hSw);go_simp;try rfl)
  simp only [pS]
  refine tk 9 (some 34) (?v27) rfl rfl ?hy27 ?hR27
  case hy27=>(intro w hSw;(try dsimp only at hSw);go_simp;try rfl)
  simp only [pS]
  refine tk 10 (some 35) (?v28) rfl rfl ?hy28 ?hR28
  case hy28=>(intro w hSw;(try dsimp only at hSw);go_simp;try rfl)
  simp only [pS]
  refine tk 11 (some 36) (?v29) rfl rfl ?hy29 ?hR29
  case hy29=>(intro w hSw;(try dsimp only at hSw);go_simp;try rfl)
  simp only [pS]
  refine tk 12 (some 37) (?v30) rfl rfl ?hy30 ?hR30
  case hy30=>(intro w hSw;(try dsimp only at hSw);go_simp;try rfl)
  simp only [pS]
  refine wpAnyH_ready (rs:=[13]) (by kernel_rfl) (by simp) ?_
  refine AllReadyH.cons (o:=_) rfl (fun K hK => ?hC31) AllReadyH.nil
  rw [if_pos (by rfl)]
  go_simp
  go_at_call 115
  refine (fracOf_one _ (HE.out.below HBc)).mono ?_
  rintro e wn ⟨rfl,hbn⟩
  replace HBc:=below_up HBc hbn
  replace KX:=KX.below hbn
  replace KP:=KP.below hbn
  replace KQ:=KQ.below hbn
  clear hbn
  go_wp2_with fail
  refine hK.out _ _ ?hS31 (fun hHeld => ?hR31)
  case hS31=>exact ⟨KX.cell 0,KX.cell 1,KP.cell 0,KQ.cell 0⟩
  try simp only [pS]
  refine wpAnyH_ready (rs:=[14]) (by kernel_rfl) (by simp) ?_
  refine AllReadyH.cons (o:=_) rfl (fun K hK => ?hC32) AllReadyH.nil
  rw [if_pos (by rfl)]
  go_simp
  go_at_call 112
  refine (HO.out _ (HE.out.below HBc)).mono ?_
  rintro e wn ⟨rfl,hbn⟩
  replace HBc:=below_up HBc hbn
  replace KX:=KX.below hbn
  replace KP:=KP.below hbn
  replace KQ:=KQ.below hbn
  clear hbn
  go_wp2_with fail
  refine hK.out _ _ ?hS32 (fun hHeld => ?hR32)
  case hS32=>exact ⟨KX.cell 0,KX.cell 1,KP.cell 0,KQ.cell 0⟩
  try simp only [pS]
  refine tk 15 (some 40) (?v33) rfl rfl ?hy33 ?hR33
  case hy33=>(intro w hSw;(try dsimp only at hSw);go_simp;try rfl)
  simp only [pS]
  refine tk 16 (some 41) (?v34) rfl rfl ?hy34 ?hR34
  case hy34=>(intro w hSw;(try dsimp only at hSw);go_simp;try rfl)
  simp only [pS]
  refine tk 17 (some 42) (?v35) rfl rfl ?hy35 ?hR35
  case hy35=>(intro w hSw;(try dsimp only at hSw);go_simp;try rfl)
  simp only [pS]
  refine tk 18 (some 24) (?v36) rfl rfl ?hy36 ?hR36
  case hy36=>(intro w hSw;(try dsimp only at hSw);go_simp;try rfl)
  simp only [pS]
  refine wpAnyH_done (by kernel_rfl) ?_ _
  go_wp2
  go_ret
  exact ⟨rfl,HBc⟩
end
section
open Go.RowKit Num
structure FracP where
 n:List UInt8
 d:List UInt8
structure PickP where
 lot:List UInt8
 q:List UInt8
structure OptP where
 other:List UInt8
 ratio:FracP
 price:FracP
 value:FracP
structure FactP where
 key:List UInt8
 stamp:Int
 cancelled:Bool
 day:Int
 kind:Int
 ins:List UInt8
 other:List UInt8
 cur:List UInt8
 target:List UInt8
 q:List UInt8
 amt:List UInt8
 fee:List UInt8
 price:FracP
 ratio:FracP
 share:FracP
 picks:List PickP
 options:List OptP
 choice:Int
def SRows (w:World) (a:Option Addr) (sz:Nat) (css:List (List Value)):Prop :=
 css=[]∨∃ b off,a=some ⟨b,off,none⟩∧b < w.heap.size∧∀ k cs,css[k]? = some cs→∀ j v,cs[j]? = some v→w.cell? ⟨b,off+k * sz+j,none⟩=some v
theorem SRows.below {w w':World} {a:Option Addr} {sz:Nat} {css:List (List Value)} (h:SRows w a sz css) (hb:Below w.heap.size w w'):SRows w' a sz css:=by
 rcases h with h | ⟨b,off,ha,hlt,hc⟩
 ·exact .inl h
 ·exact .inr ⟨b,off,ha,Nat.lt_of_lt_of_le hlt hb.size,fun k cs hk j v hv=>(hb.cell (p:=⟨b,off+k * sz+j,none⟩) hlt).trans (hc k cs hk j v hv)⟩
theorem SRows.addr {w:World} {a:Option Addr} {sz:Nat} {css:List (List Value)} (h:SRows w a sz css) {k:Nat} {cs:List Value} (hk:css[k]? = some cs) :
  ∃ b off,a=some ⟨b,off,none⟩∧b < w.heap.size∧∀ j v,cs[j]? = some v→w.cell? ⟨b,off+k * sz+j,none⟩=some v:=by
 rcases h with h | ⟨b,off,ha,hlt,hc⟩
 ·rw [h] at hk;simp at hk
 ·exact ⟨b,off,ha,hlt,hc k cs hk⟩
theorem SRows.take {w:World} {a:Option Addr} {sz:Nat} {css:List (List Value)} (h:SRows w a sz css) (n:Nat):SRows w a sz (css.take n):=by
 rcases h with h | ⟨b,off,ha,hlt,hc⟩
 ·exact .inl (by rw [h];simp)
 ·refine .inr ⟨b,off,ha,hlt,fun k cs hk j v hv=>hc k cs ?_ j v hv⟩
  rw [List.getElem?_take] at hk
  split at hk
  ·exact hk
  ·cases hk
def FracP.cells (f:FracP):List Value:=[.string ⟨f.n.toArray⟩,.string ⟨f.d.toArray⟩]
def FracP.agg (f:FracP):Value:=.agg #[.string ⟨f.n.toArray⟩,.string ⟨f.d.toArray⟩]
def PickP.cells (p:PickP):List Value:=[.string ⟨p.lot.toArray⟩,.string ⟨p.q.toArray⟩]
def OptP.cells (o:OptP):List Value:=[.string ⟨o.other.toArray⟩,.string ⟨o.ratio.n.toArray⟩,.string ⟨o.ratio.d.toArray⟩,.string ⟨o.price.n.toArray⟩,.string ⟨o.price.d.toArray⟩,.string ⟨o.value.n.toArray⟩,.string ⟨o.value.d.toArray⟩]
def FactP.cells (f:FactP) (pa:Option Addr) (pc:Nat) (oa:Option Addr) (oc:Nat):Array Value :=
 #[.string ⟨f.key.toArray⟩,.int .i64 f.stamp,.bool f.cancelled,.int .i64 f.day,.int .i64 f.kind,.string ⟨f.ins.toArray⟩,.string ⟨f.other.toArray⟩,.string ⟨f.cur.toArray⟩,.string ⟨f.target.toArray⟩,.string ⟨f.q.toArray⟩,.string ⟨f.amt.toArray⟩,.string ⟨f.fee.toArray⟩,
  .string ⟨f.price.n.toArray⟩,.string ⟨f.price.d.toArray⟩,.string ⟨f.ratio.n.toArray⟩,.string ⟨f.ratio.d.toArray⟩,.string ⟨f.share.n.toArray⟩,.string ⟨f.share.d.toArray⟩,.slice pa f.picks.length pc,.slice oa f.options.length oc,.int .i64 f.choice]
def FactP.Behind (f:FactP) (w:World) (pa:Option Addr) (oa:Option Addr):Prop:=SRows w pa 2 (f.picks.map PickP.cells)∧SRows w oa 7 (f.options.map OptP.cells)
theorem FactP.Behind.below {f:FactP} {w w':World} {pa oa:Option Addr} (h:f.Behind w pa oa) (hb:Below w.heap.size w w'):f.Behind w' pa oa:=⟨h.1.below hb,h.2.below hb⟩
def FracP.small (f:FracP):Prop:=f.n.length≤60∧f.d.length≤60
def PickP.small (p:PickP):Prop:=p.lot.length≤1000∧p.q.length≤60
def OptP.small (o:OptP):Prop:=o.other.length≤1000∧o.ratio.small∧o.price.small∧o.value.small
structure FactP.small (f:FactP):Prop where
 key:f.key.length≤1000
 ins:f.ins.length≤1000
 other:f.other.length≤1000
 cur:f.cur.length≤1000
 target:f.target.length≤1000
 q:f.q.length≤60
 amt:f.amt.length≤60
 fee:f.fee.length≤60
 price:f.price.small
 ratio:f.ratio.small
 share:f.share.small
 picks:f.picks.length≤1000
 pick:∀ p,p∈f.picks→p.small
 options:f.options.length≤1000
 option:∀ o,o∈f.options→o.small
def pks (q:List UInt8):List PickP→List (List UInt8)→Int→Int
 | [],_,s=>if val q < s then 15 else 0
 | p :: r,seen,s=>if isId p.lot=false then 23 else if seen.contains p.lot=true then 5 else if lim true false p.q [] ≠ 0 then lim true false p.q [] else pks q r (seen ++ [p.lot]) (s+val p.q)
def pickErr (f:FactP):Int:=if 64 < f.picks.length then 4 else pks f.q f.picks [] 0
end
section
open Go.RowKit Num
theorem pickEq_any (p:PickP) (l q:List UInt8) (b:Nat) (T:TypeId) (w:World) (hB:Box w b #[.string ⟨l.toArray⟩,.string ⟨q.toArray⟩] T) :
  Calls Tryz.prog 119 #[.agg #[.string ⟨p.lot.toArray⟩,.string ⟨p.q.toArray⟩],.pointer (some ⟨b,0,none⟩)] w fun e w'=>e = .returned (.bool (p.lot == l))∧Below w.heap.size w w':=by
 have HB:=Lib.hid (hB.below (below_alloc w (.cells #[.string ⟨p.lot.toArray⟩,.string ⟨p.q.toArray⟩] 70)))
 have k0:=HB.out.cell 0
 have hne:b ≠ w.heap.size:=by have:=hB.1;omega
 clear hB HB
 cases h:p.lot == l
 all_goals
  go_enter Tryz.func119,Tryz.ntmps119
  go_wp2
  go_ret
  exact ⟨by first | rfl | simp [h],below_alloc w _⟩
theorem any_take_snoc {α:Type} {ps:List α} {k:Nat} {x:α} (hx:ps[k]? = some x) (f:α→Bool):(ps.take (k+1)).any f=((ps.take k).any f || f x):=by
 rw [List.take_add_one,hx];simp
theorem indexPick_any (ps:List PickP) (a:Option Addr) (cap:Nat) (l q:List UInt8) (b:Nat) (T:TypeId) (w:World) (hn:ps.length≤1000) (hr:SRows w a 2 (ps.map PickP.cells)) (hB:Box w b #[.string ⟨l.toArray⟩,.string ⟨q.toArray⟩] T) :
  Calls Tryz.prog 150 #[.slice a ps.length cap,.func (.func 119) #[] #[.pointer (some ⟨b,0,none⟩)]] w fun e w'=>(∃ i:Int,e = .returned (.int .i64 i)∧decide (0≤i)=ps.any (fun p=>p.lot == l))∧Below w.heap.size w w':=by
 have HR:=Lib.hid hr
 have HB:=Lib.hid hB
 clear hr hB
 go_enter Tryz.func150,Tryz.ntmps150
 go_wp2_with fail
 go_loopw [8] (fun i W => ∃ k:Nat,k≤ps.length∧i = .int .i64 (k:Int)∧Hid ((ps.take k).any (fun p=>p.lot == l)=false)∧Hid (Below w.heap.size w W)) (fun i _=>ps.length - (intOf i).toNat)
 case atStart=>exact ⟨0,Nat.zero_le _,rfl,rfl,Below.refl _ _⟩
 case round =>
  obtain ⟨k,hk,rfl,hp,HBW⟩:=hrel
  by_cases hlt:k < ps.length
  ·obtain ⟨p,hx⟩:∃ p,ps[k]? = some p:=⟨ps[k],List.getElem?_eq_getElem hlt⟩
   obtain ⟨b',off,ha,hb',hc⟩:=(HR.out.below HBW.out).addr (k:=k) (cs:=p.cells) (by simp [hx])
   subst ha
   have c0:wr.cell? ⟨b',off+k * 2,none⟩=some (.string ⟨p.lot.toArray⟩):=hc 0 _ rfl
   have c1:wr.cell? ⟨b',off+k * 2+1,none⟩=some (.string ⟨p.q.toArray⟩):=hc 1 _ rfl
   have HE:=Lib.hid (any_take_snoc hx (fun p=>p.lot == l))
   have HHIT:=Lib.hid (fun h:(p.lot == l)=true=>show ps.any (fun p=>p.lot == l)=true from List.any_eq_true.2 ⟨p,List.mem_of_getElem? hx,h⟩)
   have HC:=Lib.hid (pickEq_any p l q b T wr (HB.out.below HBW.out))
   clear hx hc
   go_wp2_with fail
   refine HC.out.mono ?_
   rintro e w1 ⟨rfl,hb1⟩
   cases h:p.lot == l
   ·go_wp2
    go_roundw
    case rel=>exact ⟨k+1,by omega,by go_num,by show _=_;rw [HE.out,hp.out,h];rfl,below_up HBW.out hb1⟩
    case measure=>simp [intOf];omega
   ·go_wp2
    go_ret
    exact ⟨⟨(k:Int),rfl,by rw [HHIT.out h];simp⟩,below_up HBW.out hb1⟩
  ·obtain rfl:k=ps.length:=by omega
   go_wp2
   go_ret
   exact ⟨⟨-1,rfl,by have:=hp.out;rw [List.take_length] at this;rw [this];rfl⟩,HBW.out⟩
theorem containsPick_any (ps:List PickP) (a:Option Addr) (cap:Nat) (l q:List UInt8) (b:Nat) (T:TypeId) (w:World) (hn:ps.length≤1000) (hr:SRows w a 2 (ps.map PickP.cells)) (hB:Box w b #[.string ⟨l.toArray⟩,.string ⟨q.toArray⟩] T) :
  Calls Tryz.prog 118 #[.slice a ps.length cap,.func (.func 119) #[] #[.pointer (some ⟨b,0,none⟩)]] w fun e w'=>e = .returned (.bool (ps.any (fun p=>p.lot == l)))∧Below w.heap.size w w':=by
 have H:=Lib.hid (indexPick_any ps a cap l q b T w hn hr hB)
 clear hr hB
 go_enter Tryz.func118,Tryz.ntmps118
 go_wp2_with fail
 refine H.out.mono ?_
 rintro e w1 ⟨⟨i,rfl,hi⟩,hb⟩
 have HI:=Lib.hid hi
 clear hi
 go_wp2
 go_ret
 exact ⟨by rw [← HI.out];rfl,hb⟩
end
section
open Go.RowKit Num
theorem between_box (p q:Bool) (w:World) :
  Calls Tryz.prog 85 #[.bool p,.bool q] w fun e w' => ∃ bp bq,e = .returned (.func (.func 111) #[] #[.pointer (some ⟨bp,0,none⟩),.pointer (some ⟨bq,0,none⟩)])∧Box w' bp #[.bool p] 4∧Box w' bq #[.bool q] 4∧Below w.heap.size w w':=by
 refine (between_any p q w).mono ?_
 rintro e w' ⟨rfl,rfl⟩
 refine ⟨w.heap.size,w.heap.size+1,rfl,(Box.new0 w _ _).below (below_alloc _ _),?_,((Below.refl _ _).alloc (Nat.le_refl _) _).alloc (by simp) _⟩
 have h:=Box.new0 (w.alloc (.cells #[.bool p] 4)) #[.bool q] 4
 rw [World.size_alloc] at h
 exact h
theorem map_lot_snoc {ps:List PickP} {k:Nat} {p:PickP} (hx:ps[k]? = some p):(ps.take (k+1)).map PickP.lot=(ps.take k).map PickP.lot ++ [p.lot]:=by
 rw [List.take_add_one,hx];simp
theorem drop_cons_of {α:Type} {ps:List α} {k:Nat} {p:α} (hx:ps[k]? = some p):ps.drop k=p :: ps.drop (k+1):=by
 obtain ⟨h,rfl⟩:=List.getElem?_eq_some_iff.1 hx
 exact List.drop_eq_getElem_cons h
theorem any_contains (ps:List PickP) (l:List UInt8):ps.any (fun p=>p.lot == l)=(ps.map PickP.lot).contains l:=by
 induction ps with
 | nil=>rfl
 | cons p r ih=>simp only [List.any_cons,List.map_cons,List.contains_cons,ih];rw [Bool.beq_comm]
theorem checkPicks_any (f:FactP) (pa oa:Option Addr) (pc oc:Nat) (w:World) (hE:Env w) (hs:f.small) (hcap:f.picks.length≤pc) (hb:f.Behind w pa oa) :
  Calls Tryz.prog 91 #[.agg (f.cells pa pc oa oc)] w fun e w'=>e = .returned (.int .i64 (pickErr f))∧Below w.heap.size w w':=by
 have HE:=Lib.hid hE
 have HR:=Lib.hid hb.1
 have HS:=Lib.hid (And.intro hs.pick hs.q)
 have hn:=hs.picks
 have KF:=Lib.hid (Box.new0 w (f.cells pa pc oa oc) 30)
 have HB0:=Lib.hid (below_alloc w (.cells (f.cells pa pc oa oc) 30))
 unfold pickErr
 obtain ⟨key,stamp,cancelled,day,kind,ins,other,cur,target,fq,amt,fee,price,ratio,share,ps,options,choice⟩:=f
 dsimp only at *
 unfold FactP.cells at *
 dsimp only at *
 clear hE hb hs
 by_cases h64:64 < ps.length
 ·rw [if_pos h64]
  have h64':(64:Int) < ps.length:=by omega
  clear h64
  go_enter Tryz.func91,Tryz.ntmps91
  go_wp2
  go_ret
  exact ⟨rfl,HB0.out⟩
 ·rw [if_neg h64]
  have h64':¬ (64:Int) < ps.length:=by omega
  clear h64
  obtain ⟨res,hres⟩:∃ res,res=pks fq ps [] 0:=⟨_,rfl⟩
  rw [← hres]
  have HRES:=Lib.hid hres
  clear hres
  go_enter Tryz.func91,Tryz.ntmps91
  go_wp2_with fail
  go_loopw [3,14] (fun sv i W => ∃ (k:Nat) (s:Int),k≤ps.length∧i = .int .i64 (k:Int)∧sv = .string ⟨(canon s).toArray⟩∧Hid (res=pks fq (ps.drop k) ((ps.take k).map PickP.lot) s∧s.natAbs≤k * 10 ^ 60)∧Hid (Below (w.alloc (.cells #[.string ⟨key.toArray⟩,.int .i64 stamp,.bool cancelled,.int .i64 day,.int .i64 kind,.string ⟨ins.toArray⟩,.string ⟨other.toArray⟩,.string ⟨cur.toArray⟩,.string ⟨target.toArray⟩,.string ⟨fq.toArray⟩,.string ⟨amt.toArray⟩,.string ⟨fee.toArray⟩,.string ⟨price.n.toArray⟩,.string ⟨price.d.toArray⟩,.string ⟨ratio.n.toArray⟩,.string ⟨ratio.d.toArray⟩,.string ⟨share.n.toArray⟩,.string ⟨share.d.toArray⟩,.slice pa ps.length pc,.slice oa options.length oc,.int .i64 choice] 30)).heap.size (w.alloc (.cells #[.string ⟨key.toArray⟩,.int .i64 stamp,.bool cancelled,.int .i64 day,.int .i64 kind,.string ⟨ins.toArray⟩,.string ⟨other.toArray⟩,.string ⟨cur.toArray⟩,.string ⟨target.toArray⟩,.string ⟨fq.toArray⟩,.string ⟨amt.toArray⟩,.string ⟨fee.toArray⟩,.string ⟨price.n.toArray⟩,.string ⟨price.d.toArray⟩,.string ⟨ratio.n.toArray⟩,.string ⟨ratio.d.toArray⟩,.string ⟨share.n.toArray⟩,.string ⟨share.d.toArray⟩,.slice pa ps.length pc,.slice oa options.length oc,.int .i64 choice] 30)) W)) (fun _ i _=>ps.length - (intOf i).toNat)
  case atStart=>exact ⟨0,0,Nat.zero_le _,rfl,by rw [canon_zero],⟨by rw [HRES.out];rfl,by simp⟩,Below.refl _ _⟩
  case round =>
   obtain ⟨k,s,hk,rfl,rfl,hI,HBW⟩:=hrel
   have KFr:=KF.out.below HBW.out
   have q15:=KFr.cell 18
   have q9:=KFr.cell 9
   have HBw:=Lib.hid (below_up HB0.out HBW.out)
   have KFr:=Lib.hid KFr
   by_cases hlt:k < ps.length
   ·obtain ⟨p,hx⟩:∃ p,ps[k]? = some p:=⟨ps[k],List.getElem?_eq_getElem hlt⟩
    obtain ⟨b',off,ha,hb',hc⟩:=(HR.out.below HBw.out).addr (k:=k) (cs:=p.cells) (by simp [hx])
    subst ha
    have c0:wr.cell? ⟨b',off+k * 2,none⟩=some (.string ⟨p.lot.toArray⟩):=hc 0 _ rfl
    have c1:wr.cell? ⟨b',off+k * 2+1,none⟩=some (.string ⟨p.q.toArray⟩):=hc 1 _ rfl
    have hps:=HS.out.1 p (List.mem_of_getElem? hx)
    have HSTEP:Hid (pks fq (ps.drop k) ((ps.take k).map PickP.lot) s=if isId p.lot=false then 23 else if ((ps.take k).map PickP.lot).contains p.lot=true then 5 else if lim true false p.q [] ≠ 0 then lim true false p.q [] else pks fq (ps.drop (k+1)) ((ps.take (k+1)).map PickP.lot) (s+val p.q)):=by
     show _=_
     rw [drop_cons_of hx,map_lot_snoc hx]
     rfl
    have HLOT:=Lib.hid (fun W hE=>factLot_any p.lot W hE (by have:=hps.1;omega))
    have HLIM:=Lib.hid (fun bp bq W hE hP hQ=>lim_tf p.q [] bp bq 4 4 W hE hps.2 (by simp) hP hQ)
    have HPS:=Lib.hid hps
    have KP0:=Lib.hid (Box.new0 wr #[.string ⟨p.lot.toArray⟩,.string ⟨p.q.toArray⟩] 70)
    have BP0:=Lib.hid (below_alloc wr (.cells #[.string ⟨p.lot.toArray⟩,.string ⟨p.q.toArray⟩] 70))
    have HCON:=Lib.hid (fun W (hb:Below wr.heap.size wr W) hB=>containsPick_any (ps.take k) (some ⟨b',off,none⟩) pc p.lot p.q wr.heap.size 70 W (by rw [List.length_take];omega) (by have h:=((HR.out.below HBw.out).take k).below hb;rwa [← List.map_take] at h) hB)
    rw [show (ps.take k).length=k by rw [List.length_take];omega,any_contains] at HCON
    have hq60:=val_lt hps.2
    have hsl:(canon s).length≤64:=canon_len (K:=63) (by decide) (by have h1:=hI.out.2;have h2:k * 10 ^ 60≤999 * 10 ^ 60:=Nat.mul_le_mul_right _ (by omega);omega)
    have HADD:=Lib.hid (fun W hE=>Add_any (canon s) p.q W hE (by omega) (by have:=hps.2;omega))
    rw [val_canon] at HADD
    have HNEW:Hid ((s+val p.q).natAbs≤(k+1) * 10 ^ 60):=by
     show _≤_
     have h1:=hI.out.2
     rw [Nat.add_mul,Nat.one_mul]
     omega
    clear hx hc hps hq60 hsl
    generalize lim true false p.q []=lv at *
    generalize isId p.lot=g1 at *
    generalize ((ps.take k).map PickP.lot).contains p.lot=g2 at *
    go_wp2_with fail
    refine (HLOT.out _ (HE.out.below (below_up HBw.out BP0.out))).mono ?_
    rintro e w1 ⟨rfl,hb1⟩
    have KP1:=KP0.out.below hb1
    have B1:=below_up BP0.out hb1
    cases g1
    ·have HFIN:Hid (res=23):=by show _=_;rw [hI.out.1,HSTEP.out];rfl
     go_wp2
     go_ret
     exact ⟨by rw [HFIN.out];rfl,below_up HBw.out B1⟩
    have r15:=(KFr.out.below B1).cell 18
    have hkc:k≤pc:=by omega
    go_wp2_with fail
    refine (HCON.out _ B1 KP1).mono ?_
    rintro e w2 ⟨rfl,hb2⟩
    have KX2:=KP1.below hb2
    have B2:=below_up B1 hb2
    cases g2
    case true =>
     have HFIN:Hid (res=5):=by show _=_;rw [hI.out.1,HSTEP.out];rfl
     go_wp2
     go_ret
     exact ⟨by rw [HFIN.out];rfl,below_up HBw.out B2⟩
    go_wp2_with fail
    have HBc:=below_drewN (below_up HBW.out B2) 1
    have KX:Box w2.drew wr.heap.size #[.string ⟨p.lot.toArray⟩,.string ⟨p.q.toArray⟩] 70:=KX2
    clear KX2
    refine wp_region_held_drew (S:=fun W=>W.cell? ⟨wr.heap.size,1,none⟩=some (.string ⟨p.q.toArray⟩)) (by kernel_rfl) ?hS1 (fun hHeld => ?hR1)
    case hS1=>exact KX.cell 1
    refine tk 1 (some 30) (?v2) rfl rfl ?hy2 ?hR2
    case hy2=>(intro w hSw;(try dsimp only at hSw);go_simp;try rfl)
    simp only [pS]
    refine tk 2 (some 31) (?v3) rfl rfl ?hy3 ?hR3
    case hy3=>(intro w hSw;(try dsimp only at hSw);go_simp;try rfl)
    simp only [pS]
    refine wpAnyH_ready (rs:=[0]) (by kernel_rfl) (by simp) ?_
    refine AllReadyH.cons (o:=_) rfl (fun K hK => ?hC4) AllReadyH.nil
    rw [if_pos (by rfl)]
    go_simp
    go_at_call 85
    refine (between_box true false _).mono ?_
    rintro e wn ⟨bp,bq,rfl,hP,hQ,hbn⟩
    replace HBc:=below_up HBc hbn
    replace KX:=KX.below hbn
    clear hbn
    go_wp2_with fail
    refine hK.out _ _ ?hS4 (fun hHeld => ?hR4)
    case hS4=>exact KX.cell 1
    try simp only [pS]
    refine wpAnyH_ready (rs:=[3]) (by kernel_rfl) (by simp) ?_
    refine AllReadyH.cons (o:=_) rfl (fun K hK => ?hC5) AllReadyH.nil
    rw [if_pos (by rfl)]
    go_simp
    go_at_call 120
    refine (factWhole_any p.q _).mono ?_
    rintro e wn ⟨rfl,hbn⟩
    replace HBc:=below_up HBc hbn
    replace KX:=KX.below hbn
    replace hP:=hP.below hbn
    replace hQ:=hQ.below hbn
    clear hbn
    go_wp2_with fail
    refine hK.out _ _ ?hS5 (fun hHeld => ?hR5)
    case hS5=>exact KX.cell 1
    try simp only [pS]
    refine wpAnyH_ready (rs:=[4]) (by kernel_rfl) (by simp) ?_
    refine AllReadyH.cons (o:=_) rfl (fun K hK => ?hC6) AllReadyH.nil
    rw [if_pos (by rfl)]
    go_simp
    go_at_call 111
    refine (HLIM.out bp bq _ (HE.out.below (below_up HB0.out HBc)) hP hQ).mono ?_
    rintro e wn ⟨rfl,hbn⟩
    replace HBc:=below_up HBc hbn
    replace KX:=KX.below hbn
    clear hbn hP hQ
    go_wp2_with fail
    refine hK.out _ _ ?hS6 (fun hHeld => ?hR6)
    case hS6=>exact KX.cell 1
    try simp only [pS]
    refine tk 5 (some 6) (?v7) rfl rfl ?hy7 ?hR7
    case hy7=>(intro w hSw;(try dsimp only at hSw);go_simp;try rfl)
    simp only [pS]
    refine wpAnyH_done (by kernel_rfl) ?_ _
    have HBc:=Lib.hid HBc
    have m1:=KX.cell 1
    by_cases hlv:lv=0
    ·subst hlv
     have HFIN:Hid (res=pks fq (ps.drop (k+1)) ((ps.take (k+1)).map PickP.lot) (s+val p.q)):=by show _=_;rw [hI.out.1,HSTEP.out];rfl
     have HBB:=Lib.hid KX.1
     go_wp2_with fail
     refine (HADD.out _ (HE.out.below (below_up HB0.out HBc.out))).mono ?_
     rintro e w9 ⟨rfl,hb9⟩
     go_wp2
     go_roundw
     case rel=>exact ⟨k+1,s+val p.q,by omega,by go_num,rfl,⟨HFIN.out,HNEW.out⟩,below_up HBc.out hb9⟩
     case measure=>simp [intOf];omega
    ·have hlv':(lv == 0)=false:=by simp [hlv]
     have HFIN:Hid (res=lv):=by show _=_;rw [hI.out.1,HSTEP.out];simp [hlv]
     clear hlv
     go_wp2
     go_ret
     exact ⟨by rw [HFIN.out];rfl,below_up HB0.out HBc.out⟩
   ·obtain rfl:k=ps.length:=by omega
    have hsl:(canon s).length≤64:=canon_len (K:=63) (by decide) (by have h1:=hI.out.2;have h2:ps.length * 10 ^ 60≤999 * 10 ^ 60:=Nat.mul_le_mul_right _ (by omega);omega)
    have HCMP:=Lib.hid (fun W=>Compare_any (canon s) fq W (by omega) (by have:=HS.out.2;omega))
    rw [val_canon] at HCMP
    have HFIN:Hid (res=if val fq < s then 15 else 0):=by show _=_;rw [hI.out.1,List.drop_eq_nil_of_le (Nat.le_refl _)];rfl
    clear hsl
    by_cases hc:val fq < s
    ·have hcv:cmpI s (val fq)=1:=by unfold cmpI;rw [if_neg (by omega),if_pos hc]
     rw [hcv] at HCMP
     have HFIN:Hid (res=15):=by show _=_;rw [HFIN.out,if_pos hc]
     clear hcv hc
     go_wp2_with fail
     refine (HCMP.out _).mono ?_
     rintro e w1 ⟨rfl,hb1⟩
     go_wp2
     go_ret
     exact ⟨by rw [HFIN.out];rfl,below_up HBw.out hb1⟩
    ·have hcv:¬ 0 < cmpI s (val fq):=by unfold cmpI;split <;> simp
     generalize cmpI s (val fq)=cv at *
     have HFIN:Hid (res=0):=by show _=_;rw [HFIN.out,if_neg hc]
     clear hc
     go_wp2_with fail
     refine (HCMP.out _).mono ?_
     rintro e w1 ⟨rfl,hb1⟩
     go_wp2
     go_ret
     exact ⟨by rw [HFIN.out];rfl,below_up HBw.out hb1⟩
end
end Go.Proofs.YtbcebibkpfklnaaGreatDoor
