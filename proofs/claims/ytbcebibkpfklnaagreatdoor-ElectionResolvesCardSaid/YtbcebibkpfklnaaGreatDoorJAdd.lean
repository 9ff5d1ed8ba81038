/- Add Sub DivL Len FracP LotP Lot -/
import Derived.Test.YtbcebibkpfklnaaGreatDoorJText
import Derived.Test.YtbcebibkpfklnaaGreatDoorJNum
import Derived.Test.YtbcebibkpfklnaaGreatDoorJNames
import Derived.Deep.RegionWith
import Derived.Deep.RegionHeld3
set_option maxHeartbeats 16000000
set_option maxRecDepth 100000
namespace Go.Proofs.YtbcebibkpfklnaaGreatDoor
section
open Go.RowKit Num
theorem setCell_drewN (w:World) (n:Nat) (p:Addr) (v:Value):(w.drewN n).setCell p v=(w.setCell p v).drewN n:=rfl
attribute [local go_sem] setCell_drewN
def sgn (n:Bool) (x:Nat):Int:=if n=true then -(x:Int) else x
def addS (nx ny:Bool) (x y:Nat):Bool × Nat:=if nx=ny then (nx,x+y) else if x < y then (ny,y - x) else (nx,x - y)
theorem addS_val (nx ny:Bool) (x y:Nat):sgn (addS nx ny x y).1 (addS nx ny x y).2=sgn nx x+sgn ny y:=by
 unfold addS
 by_cases h:nx=ny
 ·subst h;rw [if_pos rfl];cases nx <;> simp [sgn] <;> omega
 ·rw [if_neg h]
  by_cases h2:x < y
  ·rw [if_pos h2];cases nx <;> cases ny <;> simp_all [sgn] <;> omega
  ·rw [if_neg h2];cases nx <;> cases ny <;> simp_all [sgn] <;> omega
theorem add_same (n:Bool) (x y:Nat) (a a':Option Addr) (cap cap':Nat) (w:World) (h1:(groupsOf x).length≤100000000000) (h2:(groupsOf y).length≤100000000000) (hr:Row w a (gs (groupsOf x))) (hr':Row w a' (gs (groupsOf y))) :
  Calls Tryz.prog 151 #[.agg #[.bool n,.slice a (groupsOf x).length cap],.agg #[.bool n,.slice a' (groupsOf y).length cap']] w fun e w' => ∃ b c,e = .returned (.agg #[.bool n,.slice b (groupsOf (x+y)).length c])∧(groupsOf (x+y)).length≤c∧Fresh w.heap.size b∧Row w' b (gs (groupsOf (x+y)))∧Below w.heap.size w w':=by
 have HP:=Lib.hid (fun W (hW:Below w.heap.size w W)=>plus_any x y a a' cap cap' W (by omega) (by omega) (hr.below hW) (hr'.below hW))
 generalize (groupsOf x).length=lx at *
 generalize (groupsOf y).length=ly at *
 have HR:=Lib.hid (And.intro hr hr')
 clear hr hr'
 have HB:=Lib.hid (fun o1 o2 o3 n=>show Below w.heap.size w ((((w.alloc o1).alloc o2).alloc o3).drewN n) from below_drewN ((((Below.refl _ _).alloc (Nat.le_refl _) _).alloc (by simp) _).alloc (by simp;omega) _) n)
 go_enter Tryz.func151,Tryz.ntmps151
 go_wp2
 go_region_held3 (fun W=>W.cell? ⟨w.heap.size,0,none⟩=some (.bool n)∧W.cell? ⟨w.heap.size,1,none⟩=some (.slice a lx cap)∧W.cell? ⟨w.heap.size+1,1,none⟩=some (.slice a' ly cap')) (first | exact ⟨k0,k1,k2⟩ | exact ⟨(cell_two _ _ (by omega)).trans k0,(cell_two _ _ (by omega)).trans k1,(cell_two _ _ (by omega)).trans k2⟩ | go_keep)
  (first | (go_at_call 179;refine (HP.out _ (HB.out _ _ _ 1)).mono ?_;rintro e w1 ⟨b1,c1,rfl,hc1,hf1,hr1,hb1⟩;have hb2:w.heap.size+3≤b1:=(by simp at hf1;omega);obtain ⟨q1,q2,q3⟩:=boxes3 (n:=1) hb1;have k0:=cell_at q1 0;have k1:=cell_at q1 1;have k2:=cell_at q2 1;have k3:=cell_at q3 0;have k4:=cell_at q3 1;have f3:=frozen_at q3 0;have f4:=frozen_at q3 1;have Q3:=Lib.hid q3;clear q1 q2 q3))
 have HR1:=Lib.hid hr1
 clear hr1 hf1
 go_wp2
 refine bodyPost_ret (v:=.agg #[.bool n,.slice (some ⟨b1,0,none⟩) (groupsOf (x+y)).length c1]) (by simp [results,Tryz.results151,go_sem,k3,k4]) rfl ⟨some ⟨b1,0,none⟩,c1,rfl,hc1,Fresh.of (by omega),?_,?_⟩
 ·exact (HR1.out.setCell (p:=⟨w.heap.size+1+1,0,none⟩) (fun b off hb=>by injection hb with hb;injection hb with hb;show b ≠ w.heap.size+1+1;omega) _).setCell (p:=⟨w.heap.size+1+1,1,none⟩) (fun b off hb=>by injection hb with hb;injection hb with hb;show b ≠ w.heap.size+1+1;omega) _
 ·exact (((HB.out _ _ _ 1).trans (hb1.mono (by show w.heap.size≤(((w.alloc _).alloc _).alloc _).heap.size;simp;omega))).setCell (p:=⟨w.heap.size+1+1,0,none⟩) (by show w.heap.size≤w.heap.size+1+1;omega) _).setCell (p:=⟨w.heap.size+1+1,1,none⟩) (by show w.heap.size≤w.heap.size+1+1;omega) _
theorem add_ge (nx ny:Bool) (hne:nx ≠ ny) (x y:Nat) (a a':Option Addr) (cap cap':Nat) (w:World) (hxy:y≤x) (h1:(groupsOf x).length≤100000000000) (h2:(groupsOf y).length≤100000000000) (hr:Row w a (gs (groupsOf x))) (hr':Row w a' (gs (groupsOf y))) :
  Calls Tryz.prog 151 #[.agg #[.bool nx,.slice a (groupsOf x).length cap],.agg #[.bool ny,.slice a' (groupsOf y).length cap']] w fun e w' => ∃ b c,e = .returned (.agg #[.bool nx,.slice b (groupsOf (x - y)).length c])∧(groupsOf (x - y)).length≤c∧Fresh w.heap.size b∧Row w' b (gs (groupsOf (x - y)))∧Below w.heap.size w w':=by
 have HC:=Lib.hid (fun W (hW:Below w.heap.size w W)=>compare_any (groupsOf x) (groupsOf y) a a' cap cap' W (by omega) (by omega) (groupsOf_lt x) (groupsOf_lt y) (hr.below hW) (hr'.below hW))
 have HP:=Lib.hid (fun W (hW:Below w.heap.size w W)=>minus_any x y a a' cap cap' W hxy (by omega) (hr.below hW) (hr'.below hW))
 have hcv:=(show ¬ cmpV (groupsOf x) (groupsOf y) < 0 by rw [cmpV_lt_iff];omega)
 have hne':(nx == ny)=false:=by simpa using hne
 generalize cmpV (groupsOf x) (groupsOf y)=cv at *
 generalize (groupsOf x).length=lx at *
 generalize (groupsOf y).length=ly at *
 have HR:=Lib.hid (And.intro hr hr')
 clear hr hr' hne
 have HB:=Lib.hid (fun o1 o2 o3 n=>show Below w.heap.size w ((((w.alloc o1).alloc o2).alloc o3).drewN n) from below_drewN ((((Below.refl _ _).alloc (Nat.le_refl _) _).alloc (by simp) _).alloc (by simp;omega) _) n)
 go_enter Tryz.func151,Tryz.ntmps151
 go_wp2_with (go_at_call 154;refine (HC.out _ (HB.out _ _ _ 0)).mono ?_;rintro e w1 ⟨rfl,q,rfl⟩)
 go_region_held3 (fun W=>W.cell? ⟨w.heap.size,0,none⟩=some (.bool nx)∧W.cell? ⟨w.heap.size,1,none⟩=some (.slice a lx cap)∧W.cell? ⟨w.heap.size+1,1,none⟩=some (.slice a' ly cap')) (first | exact ⟨k0,k1,k2⟩ | exact ⟨(cell_two _ _ (by omega)).trans k0,(cell_two _ _ (by omega)).trans k1,(cell_two _ _ (by omega)).trans k2⟩ | go_keep)
  (first | (go_at_call 180;refine (HP.out _ (HB.out _ _ _ (q+1))).mono ?_;rintro e w1 ⟨b1,c1,rfl,hc1,hf1,hr1,hb1⟩;replace hf1:Fresh (w.heap.size+3) b1:=(hf1.mono (by show w.heap.size+3≤(((w.alloc _).alloc _).alloc _).heap.size;simp));obtain ⟨q1,q2,q3⟩:=boxes3 (n:=q+1) hb1;have k0:=cell_at q1 0;have k1:=cell_at q1 1;have k2:=cell_at q2 1;have k3:=cell_at q3 0;have k4:=cell_at q3 1;have f3:=frozen_at q3 0;have f4:=frozen_at q3 1;have Q3:=Lib.hid q3;clear q1 q2 q3))
 have HR1:=Lib.hid hr1
 have HF1:=Lib.hid hf1
 clear hr1 hf1
 go_wp2
 refine bodyPost_ret (v:=.agg #[.bool nx,.slice b1 (groupsOf (x - y)).length c1]) (by simp [results,Tryz.results151,go_sem,k3,k4]) rfl ⟨b1,c1,rfl,hc1,HF1.out.mono (by omega),?_,?_⟩
 ·exact (HR1.out.setCell (p:=⟨w.heap.size+1+1,0,none⟩) (fun b off hb=>by have:=HF1.out b off hb;show b ≠ w.heap.size+1+1;omega) _).setCell (p:=⟨w.heap.size+1+1,1,none⟩) (fun b off hb=>by have:=HF1.out b off hb;show b ≠ w.heap.size+1+1;omega) _
 ·exact (((HB.out _ _ _ (q+1)).trans (hb1.mono (by show w.heap.size≤(((w.alloc _).alloc _).alloc _).heap.size;simp;omega))).setCell (p:=⟨w.heap.size+1+1,0,none⟩) (by show w.heap.size≤w.heap.size+1+1;omega) _).setCell (p:=⟨w.heap.size+1+1,1,none⟩) (by show w.heap.size≤w.heap.size+1+1;omega) _
theorem add_lt (nx ny:Bool) (hne:nx ≠ ny) (x y:Nat) (a a':Option Addr) (cap cap':Nat) (w:World) (hxy:x < y) (h1:(groupsOf x).length≤100000000000) (h2:(groupsOf y).length≤100000000000) (hr:Row w a (gs (groupsOf x))) (hr':Row w a' (gs (groupsOf y))) :
  Calls Tryz.prog 151 #[.agg #[.bool nx,.slice a (groupsOf x).length cap],.agg #[.bool ny,.slice a' (groupsOf y).length cap']] w fun e w' => ∃ b c,e = .returned (.agg #[.bool ny,.slice b (groupsOf (y - x)).length c])∧(groupsOf (y - x)).length≤c∧Fresh w.heap.size b∧Row w' b (gs (groupsOf (y - x)))∧Below w.heap.size w w':=by
 have HC:=Lib.hid (fun W (hW:Below w.heap.size w W)=>compare_any (groupsOf x) (groupsOf y) a a' cap cap' W (by omega) (by omega) (groupsOf_lt x) (groupsOf_lt y) (hr.below hW) (hr'.below hW))
 have HP:=Lib.hid (fun W (hW:Below w.heap.size w W)=>minus_any y x a' a cap' cap W (by omega) (by omega) (hr'.below hW) (hr.below hW))
 have hcv:=(show cmpV (groupsOf x) (groupsOf y) < 0 by rw [cmpV_lt_iff];omega)
 have hne':(nx == ny)=false:=by simpa using hne
 generalize cmpV (groupsOf x) (groupsOf y)=cv at *
 generalize (groupsOf x).length=lx at *
 generalize (groupsOf y).length=ly at *
 have HR:=Lib.hid (And.intro hr hr')
 clear hr hr' hne
 have HB:=Lib.hid (fun o1 o2 o3 n=>show Below w.heap.size w ((((w.alloc o1).alloc o2).alloc o3).drewN n) from below_drewN ((((Below.refl _ _).alloc (Nat.le_refl _) _).alloc (by simp) _).alloc (by simp;omega) _) n)
 go_enter Tryz.func151,Tryz.ntmps151
 go_wp2_with (go_at_call 154;refine (HC.out _ (HB.out _ _ _ 0)).mono ?_;rintro e w1 ⟨rfl,q,rfl⟩)
 go_region_held3 (fun W=>W.cell? ⟨w.heap.size,0,none⟩=some (.bool ny)∧W.cell? ⟨w.heap.size,1,none⟩=some (.slice a' ly cap')∧W.cell? ⟨w.heap.size+1,1,none⟩=some (.slice a lx cap)) (first | exact ⟨k0,k1,k2⟩ | exact ⟨(cell_two _ _ (by omega)).trans k0,(cell_two _ _ (by omega)).trans k1,(cell_two _ _ (by omega)).trans k2⟩ | go_keep)
  (first | (go_at_call 180;refine (HP.out _ (HB.out _ _ _ (q+1))).mono ?_;rintro e w1 ⟨b1,c1,rfl,hc1,hf1,hr1,hb1⟩;replace hf1:Fresh (w.heap.size+3) b1:=(hf1.mono (by show w.heap.size+3≤(((w.alloc _).alloc _).alloc _).heap.size;simp));obtain ⟨q1,q2,q3⟩:=boxes3 (n:=q+1) hb1;have k0:=cell_at q1 0;have k1:=cell_at q1 1;have k2:=cell_at q2 1;have k3:=cell_at q3 0;have k4:=cell_at q3 1;have f3:=frozen_at q3 0;have f4:=frozen_at q3 1;have Q3:=Lib.hid q3;clear q1 q2 q3))
 have HR1:=Lib.hid hr1
 have HF1:=Lib.hid hf1
 clear hr1 hf1
 go_wp2
 refine bodyPost_ret (v:=.agg #[.bool ny,.slice b1 (groupsOf (y - x)).length c1]) (by simp [results,Tryz.results151,go_sem,k3,k4]) rfl ⟨b1,c1,rfl,hc1,HF1.out.mono (by omega),?_,?_⟩
 ·exact (HR1.out.setCell (p:=⟨w.heap.size+1+1,0,none⟩) (fun b off hb=>by have:=HF1.out b off hb;show b ≠ w.heap.size+1+1;omega) _).setCell (p:=⟨w.heap.size+1+1,1,none⟩) (fun b off hb=>by have:=HF1.out b off hb;show b ≠ w.heap.size+1+1;omega) _
 ·exact (((HB.out _ _ _ (q+1)).trans (hb1.mono (by show w.heap.size≤(((w.alloc _).alloc _).alloc _).heap.size;simp;omega))).setCell (p:=⟨w.heap.size+1+1,0,none⟩) (by show w.heap.size≤w.heap.size+1+1;omega) _).setCell (p:=⟨w.heap.size+1+1,1,none⟩) (by show w.heap.size≤w.heap.size+1+1;omega) _
theorem addN_any (nx ny:Bool) (x y:Nat) (a a':Option Addr) (cap cap':Nat) (w:World) (h1:(groupsOf x).length≤100000000000) (h2:(groupsOf y).length≤100000000000) (hr:Row w a (gs (groupsOf x))) (hr':Row w a' (gs (groupsOf y))) :
  Calls Tryz.prog 151 #[.agg #[.bool nx,.slice a (groupsOf x).length cap],.agg #[.bool ny,.slice a' (groupsOf y).length cap']] w fun e w' => ∃ b c,e = .returned (.agg #[.bool (addS nx ny x y).1,.slice b (groupsOf (addS nx ny x y).2).length c])∧(groupsOf (addS nx ny x y).2).length≤c∧Fresh w.heap.size b∧Row w' b (gs (groupsOf (addS nx ny x y).2))∧Below w.heap.size w w':=by
 by_cases h:nx=ny
 ·subst h
  have e:addS nx nx x y=(nx,x+y):=by unfold addS;rw [if_pos rfl]
  rw [e]
  exact add_same nx x y a a' cap cap' w h1 h2 hr hr'
 ·by_cases h3:x < y
  ·have e:addS nx ny x y=(ny,y - x):=by unfold addS;rw [if_neg h,if_pos h3]
   rw [e]
   exact add_lt nx ny h x y a a' cap cap' w h3 h1 h2 hr hr'
  ·have e:addS nx ny x y=(nx,x - y):=by unfold addS;rw [if_neg h,if_neg h3]
   rw [e]
   exact add_ge nx ny h x y a a' cap cap' w (by omega) h1 h2 hr hr'
theorem val_sgn (l:List UInt8):val l=sgn (negs l) (nat (digs l)):=rfl
theorem txt_add (nx ny:Bool) (x y:Nat):txt (addS nx ny x y).1 (addS nx ny x y).2=canon (sgn nx x+sgn ny y):=by
 rw [txt_canon,← addS_val];rfl
theorem groups_le (l:List UInt8):(groupsOf (nat (digs l))).length≤l.length:=by
 refine Nat.le_trans ?_ (digs_le l)
 by_cases h:groupsOf (nat (digs l))=[]
 ·rw [h];exact Nat.zero_le _
 ·have h1:=len_lt (groupsOf_norm (nat (digs l))) h
  rw [gval_groupsOf] at h1
  have h2:=nat_lt (digs l) (digs_dig l)
  have e9:(1000000000:Nat)=10 ^ 9:=by decide
  rw [e9,← Nat.pow_mul] at h1
  have h3:=(Nat.pow_lt_pow_iff_right (a:=10) (by decide)).1 (Nat.lt_of_le_of_lt h1 h2)
  have:=List.length_pos_iff.2 h
  omega
theorem addS_le (nx ny:Bool) (x y:Nat):(addS nx ny x y).2≤x+y:=by
 unfold addS;split
 ·simp
 ·split <;> simp <;> omega
theorem plus_len (x y:Nat):(groupsOf (x+y)).length≤(groupsOf x).length+(groupsOf y).length+1:=by
 by_cases h:groupsOf (x+y)=[]
 ·rw [h];simp
 ·have h1:=len_lt (groupsOf_norm (x+y)) h
  rw [gval_groupsOf] at h1
  have h2:=gval_lt (groupsOf_lt x)
  have h3:=gval_lt (groupsOf_lt y)
  rw [gval_groupsOf] at h2 h3
  rcases Nat.lt_or_ge ((groupsOf x).length+(groupsOf y).length) ((groupsOf (x+y)).length - 1) with g | g
  ·exfalso
   have h4:1000000000 ^ ((groupsOf x).length+(groupsOf y).length+1)≤1000000000 ^ ((groupsOf (x+y)).length - 1):=Nat.pow_le_pow_right (by decide) (by omega)
   have h5:1000000000 ^ (groupsOf x).length≤1000000000 ^ ((groupsOf x).length+(groupsOf y).length):=Nat.pow_le_pow_right (by decide) (by omega)
   have h6:1000000000 ^ (groupsOf y).length≤1000000000 ^ ((groupsOf x).length+(groupsOf y).length):=Nat.pow_le_pow_right (by decide) (by omega)
   rw [Nat.pow_succ] at h4
   omega
  ·omega
theorem Add_any (l m:List UInt8) (w:World) (hE:Env w) (hl:l.length≤10000000000) (hm:m.length≤10000000000) :
  Calls Tryz.prog 121 #[.string ⟨l.toArray⟩,.string ⟨m.toArray⟩] w fun e w'=>e = .returned (.string ⟨(canon (val l+val m)).toArray⟩)∧Below w.heap.size w w':=by
 have H1:=Lib.hid (fun W=>read_any l W (by omega))
 have H2:=Lib.hid (fun W=>read_any m W (by omega))
 have g1:=groups_le l
 have g2:=groups_le m
 rw [val_sgn l,val_sgn m,← txt_add]
 generalize nat (digs l)=x at *
 generalize nat (digs m)=y at *
 generalize negs l=nx at *
 generalize negs m=ny at *
 have hal:=addS_le nx ny x y
 have hpl:=plus_len x y
 have HG:=Lib.hid (And.intro g1 (And.intro g2 (And.intro (len_le_of_lt hal) hpl)))
 have H3:=Lib.hid (addN_any nx ny x y)
 have HE:=Lib.hid hE
 clear hE g1 g2 hal hpl
 generalize addS nx ny x y=r at *
 go_enter Tryz.func121,Tryz.ntmps121
 go_wp2_with fail
 refine (H1.out _).mono ?_
 rintro e w1 ⟨a,c,rfl,hc,hf,hr,hb⟩
 go_wp2_with fail
 refine (H2.out _).mono ?_
 rintro e w2 ⟨a',c',rfl,hc',hf',hr',hb'⟩
 go_wp2_with fail
 refine (H3.out a a' c c' _ (by have:=HG.out;omega) (by have:=HG.out;omega) (hr.below hb') hr').mono ?_
 rintro e w3 ⟨a2,c2,rfl,hc2,hf2,hr2,hb2⟩
 go_wp2_with fail
 refine (text_any r.2 r.1 a2 c2 _ (HE.out.below (below_up (below_up hb hb') hb2)) hc2 (by have:=HG.out;omega) hr2).mono ?_
 rintro e w4 ⟨rfl,hb3⟩
 go_wp2
 go_ret
 exact ⟨rfl,below_up (below_up (below_up hb hb') hb2) hb3⟩
end
section
open Go.RowKit Num
attribute [local go_sem] setCell_drewN
theorem sgn_not (n:Bool) (x:Nat):sgn (!n) x = -sgn n x:=by cases n <;> simp [sgn]
theorem Sub_any (l m:List UInt8) (w:World) (hE:Env w) (hl:l.length≤10000000000) (hm:m.length≤10000000000) :
  Calls Tryz.prog 198 #[.string ⟨l.toArray⟩,.string ⟨m.toArray⟩] w fun e w'=>e = .returned (.string ⟨(canon (val l - val m)).toArray⟩)∧Below w.heap.size w w':=by
 have H1:=Lib.hid (fun W=>read_any l W (by omega))
 have H2:=Lib.hid (fun W=>read_any m W (by omega))
 have g1:=groups_le l
 have g2:=groups_le m
 rw [val_sgn l,val_sgn m,Int.sub_eq_add_neg,← sgn_not,← txt_add]
 generalize nat (digs l)=x at *
 generalize nat (digs m)=y at *
 generalize negs l=nx at *
 generalize negs m=ny at *
 have hal:=addS_le nx (!ny) x y
 have hpl:=plus_len x y
 have HG:=Lib.hid (And.intro g1 (And.intro g2 (And.intro (len_le_of_lt hal) hpl)))
 have H3:=Lib.hid (addN_any nx (!ny) x y)
 have HE:=Lib.hid hE
 clear hE g1 g2 hal hpl
 generalize addS nx (!ny) x y=r at *
 go_enter Tryz.func198,Tryz.ntmps198
 go_wp2_with fail
 refine (H2.out _).mono ?_
 rintro e w2 ⟨a',c',rfl,hc',hf',hr',hb'⟩
 have HR':=Lib.hid hr'
 clear hr'
 go_wp2_with fail
 have HX:=Lib.hid (fun o n w1 (hb:Below ((w2.alloc o).drewN n).heap.size ((w2.alloc o).drewN n) w1)=>(HR'.out.below (below_drewN ((Below.refl _ _).alloc (Nat.le_refl _) _) n)).below hb)
 have HW:=Lib.hid (fun o n=>show Below w.heap.size w ((w2.alloc o).drewN n) from below_up hb' (below_drewN ((Below.refl _ _).alloc (Nat.le_refl _) _) n))
 go_region_held3 (fun W=>W.cell? ⟨w2.heap.size,0,none⟩=some (.bool !ny)∧W.cell? ⟨w2.heap.size,1,none⟩=some (.slice a' (groupsOf y).length c')) (first | exact ⟨k0,k1⟩ | exact ⟨(hb2.cell hk).trans k0,(hb2.cell hk).trans k1⟩ | exact ⟨(hb3.cell (p:=⟨w2.heap.size,0,none⟩) hk2).trans ((hb2.cell hk).trans k0),(hb3.cell (p:=⟨w2.heap.size,1,none⟩) hk2).trans ((hb2.cell hk).trans k1)⟩ | go_keep)
  (first | (go_at_call 152;refine (H1.out _).mono ?_;rintro e w1 ⟨a,c,rfl,hc,hf,hr,hb⟩;have q1:=boxes1 (n:=1) hb;have k0:=cell_at q1 0;have k1:=cell_at q1 1;have hk:w2.heap.size < w1.heap.size:=(Array.getElem?_eq_some_iff.1 q1).1;have hr1:=HX.out _ 1 _ hb;have hbw1:=below_up (HW.out _ 1) hb;clear q1 hb) | (go_at_call 151;refine (H3.out a a' c c' _ (by have:=HG.out;omega) (by have:=HG.out;omega) hr hr1).mono ?_;rintro e w3 ⟨a2,c2,rfl,hc2,hf2,hr2,hb2⟩;have hk2:w2.heap.size < w3.heap.size:=Nat.lt_of_lt_of_le hk hb2.size) | (go_at_call 153;refine (text_any r.2 r.1 a2 c2 _ (HE.out.below (below_up hbw1 hb2)) hc2 (by have:=HG.out;omega) hr2).mono ?_;rintro e w4 ⟨rfl,hb3⟩))
 go_wp2
 go_ret
 exact ⟨rfl,below_up (below_up hbw1 hb2) hb3⟩
def cmpI (a b:Int):Int:=if a < b then -1 else if b < a then 1 else 0
theorem cmp_same {n:Bool} {x y:Nat} {cv:Int} (h:(x < y→cv < 0)∧(x=y→cv=0)∧(y < x→0 < cv)) :
  max (-1) (min (if n=true then -cv else cv) 1)=cmpI (sgn n x) (sgn n y):=by
 obtain ⟨h1,h2,h3⟩:=h
 unfold cmpI sgn
 cases n
 ·simp only [Bool.false_eq_true,if_false]
  rcases Nat.lt_trichotomy x y with h | h | h
  ·rw [if_pos (by omega)];have:=h1 h;omega
  ·rw [if_neg (by omega),if_neg (by omega)];have:=h2 h;omega
  ·rw [if_neg (by omega),if_pos (by omega)];have:=h3 h;omega
 ·simp only [if_true]
  rcases Nat.lt_trichotomy x y with h | h | h
  ·rw [if_neg (by omega),if_pos (by omega)];have:=h1 h;omega
  ·rw [if_neg (by omega),if_neg (by omega)];have:=h2 h;omega
  ·rw [if_pos (by omega)];have:=h3 h;omega
theorem negs_pos {l:List UInt8} (h:negs l=true):0 < nat (digs l):=by
 have h1:digs l ≠ []:=by unfold negs at h;simp at h;exact h.2
 have:=(not_congr (digs_nil_iff l)).1 h1
 omega
theorem Compare_any (l m:List UInt8) (w:World) (hl:l.length≤10000000000) (hm:m.length≤10000000000) :
  Calls Tryz.prog 122 #[.string ⟨l.toArray⟩,.string ⟨m.toArray⟩] w fun e w'=>e = .returned (.int .i64 (cmpI (val l) (val m)))∧Below w.heap.size w w':=by
 have H1:=Lib.hid (fun W=>read_any l W (by omega))
 have H2:=Lib.hid (fun W=>read_any m W (by omega))
 have g1:=groups_le l
 have g2:=groups_le m
 have p1:=fun h=>negs_pos (l:=l) h
 have p2:=fun h=>negs_pos (l:=m) h
 rw [val_sgn l,val_sgn m]
 generalize nat (digs l)=x at *
 generalize nat (digs m)=y at *
 generalize negs l=nx at *
 generalize negs m=ny at *
 have H3:=Lib.hid (compare_any (groupsOf x) (groupsOf y))
 have hcv:=cmpV_groups x y
 have hcb:-10000000001≤cmpV (groupsOf x) (groupsOf y)∧cmpV (groupsOf x) (groupsOf y)≤10000000001:=by
  unfold cmpV
  split
  ·split
   ·omega
   ·split <;> omega
  ·omega
 generalize cmpV (groupsOf x) (groupsOf y)=cv at *
 obtain ⟨hcb1,hcb2⟩:=hcb
 have HV:=Lib.hid (And.intro hcv (And.intro p1 p2))
 clear hcv p1 p2
 by_cases hn:nx=ny
 ·subst hn
  have HF:=Lib.hid (cmp_same (n:=nx) HV.out.1)
  cases nx
  all_goals
   go_enter Tryz.func122,Tryz.ntmps122
   go_wp2_with fail
   refine (H1.out _).mono ?_
   rintro e w1 ⟨a,c,rfl,hc,hf,hr,hb⟩
   go_wp2_with fail
   refine (H2.out _).mono ?_
   rintro e w2 ⟨a',c',rfl,hc',hf',hr',hb'⟩
   have HB:=Lib.hid (fun o1 o2=>show Below w2.heap.size w2 ((w2.alloc o1).alloc o2) from ((Below.refl _ _).alloc (Nat.le_refl _) _).alloc (by simp) _)
   have HR:=Lib.hid (And.intro (hr.below hb') hr')
   clear hr hr'
   go_wp2_with (go_at_call 154;refine (H3.out a a' c c' _ (by omega) (by omega) (groupsOf_lt x) (groupsOf_lt y) (HR.out.1.below (HB.out _ _)) (HR.out.2.below (HB.out _ _))).mono ?_;rintro e w3 ⟨rfl,q,rfl⟩)
   go_ret
   refine ⟨ret_int ?_,below_drewN (below_up (below_up hb hb') (HB.out _ _)) q⟩
   rw [← HF.out]
   simp
   try omega
 ·have hn':(nx != ny)=true:=by simpa using hn
  cases nx
  ·have hny:ny=true:=by simpa using hn
   subst hny
   have HF:Hid (cmpI (sgn false x) (sgn true y)=1):=by
    have:=HV.out.2.2 rfl
    show cmpI _ _=1
    unfold cmpI sgn
    simp only [Bool.false_eq_true,if_false,if_true]
    rw [if_neg (by omega),if_pos (by omega)]
   clear hn hn'
   go_enter Tryz.func122,Tryz.ntmps122
   go_wp2_with fail
   refine (H1.out _).mono ?_
   rintro e w1 ⟨a,c,rfl,hc,hf,hr,hb⟩
   go_wp2_with fail
   refine (H2.out _).mono ?_
   rintro e w2 ⟨a',c',rfl,hc',hf',hr',hb'⟩
   have HB:=Lib.hid (fun o1 o2=>show Below w2.heap.size w2 ((w2.alloc o1).alloc o2) from ((Below.refl _ _).alloc (Nat.le_refl _) _).alloc (by simp) _)
   have HR:=Lib.hid (And.intro (hr.below hb') hr')
   clear hr hr'
   go_wp2_with (go_at_call 154;refine (H3.out a a' c c' _ (by omega) (by omega) (groupsOf_lt x) (groupsOf_lt y) (HR.out.1.below (HB.out _ _)) (HR.out.2.below (HB.out _ _))).mono ?_;rintro e w3 ⟨rfl,q,rfl⟩)
   go_ret
   refine ⟨ret_int ?_,below_drewN (below_up (below_up hb hb') (HB.out _ _)) q⟩
   rw [HF.out]
   try simp
   try omega
  ·have hny:ny=false:=by simpa using hn
   subst hny
   have HF:Hid (cmpI (sgn true x) (sgn false y) = -1):=by
    have:=HV.out.2.1 rfl
    show cmpI _ _ = -1
    unfold cmpI sgn
    simp only [Bool.false_eq_true,if_false,if_true]
    rw [if_pos (by omega)]
   clear hn hn'
   go_enter Tryz.func122,Tryz.ntmps122
   go_wp2_with fail
   refine (H1.out _).mono ?_
   rintro e w1 ⟨a,c,rfl,hc,hf,hr,hb⟩
   go_wp2_with fail
   refine (H2.out _).mono ?_
   rintro e w2 ⟨a',c',rfl,hc',hf',hr',hb'⟩
   have HB:=Lib.hid (fun o1 o2=>show Below w2.heap.size w2 ((w2.alloc o1).alloc o2) from ((Below.refl _ _).alloc (Nat.le_refl _) _).alloc (by simp) _)
   have HR:=Lib.hid (And.intro (hr.below hb') hr')
   clear hr hr'
   go_wp2_with (go_at_call 154;refine (H3.out a a' c c' _ (by omega) (by omega) (groupsOf_lt x) (groupsOf_lt y) (HR.out.1.below (HB.out _ _)) (HR.out.2.below (HB.out _ _))).mono ?_;rintro e w3 ⟨rfl,q,rfl⟩)
   go_ret
   refine ⟨ret_int ?_,below_drewN (below_up (below_up hb hb') (HB.out _ _)) q⟩
   rw [HF.out]
   try simp
   try omega
end
section
open Num
theorem fdiv_unique {a b q r:Int} (h:a=b * q+r) (hb:b ≠ 0) (h1:0 < b→0≤r∧r < b) (h2:b < 0→b < r∧r≤0):a.fdiv b=q∧a.fmod b=r:=by
 have key:a.fdiv b=q:=by
  rcases Int.lt_or_lt_of_ne hb with hn | hp
  ·rw [← Int.neg_fdiv_neg,Int.fdiv_eq_ediv_of_nonneg _ (by omega)]
   exact ((Int.ediv_emod_unique (a:=-a) (b:=-b) (r:=-r) (q:=q) (by omega)).2 ⟨by rw [h,Int.neg_mul];omega,by have:=h2 hn;omega,by have:=h2 hn;omega⟩).1
  ·rw [Int.fdiv_eq_ediv_of_nonneg _ (by omega)]
   exact ((Int.ediv_emod_unique (a:=a) (b:=b) (r:=r) (q:=q) hp).2 ⟨by omega,(h1 hp).1,(h1 hp).2⟩).1
 exact ⟨key,by rw [Int.fmod_def,key];omega⟩
theorem div_mod_int (x y:Nat):(x:Int)=(y:Int) * ((x / y:Nat):Int)+((x % y:Nat):Int):=by
 have h:=Nat.div_add_mod x y
 have:((y * (x / y)+x % y:Nat):Int)=(x:Int):=by rw [h]
 rw [← this];simp
theorem fdiv_plain {nx ny:Bool} {x y:Nat} (hy:y ≠ 0) (h:nx=ny∨x % y=0):(sgn nx x).fdiv (sgn ny y)=sgn (nx != ny) (x / y)∧(sgn nx x).fmod (sgn ny y)=sgn ny (x % y):=by
 have e:=div_mod_int x y
 have hm:=Nat.mod_lt x (Nat.pos_of_ne_zero hy)
 generalize x / y=q at *
 generalize x % y=r at *
 apply fdiv_unique
 ·cases nx <;> cases ny <;> simp [sgn,Int.neg_mul,Int.mul_neg] at h ⊢ <;> omega
 ·cases ny <;> simp [sgn] <;> omega
 ·cases ny <;> simp [sgn] <;> omega
 ·cases ny <;> simp [sgn] <;> omega
end
section
open Go.RowKit Num
theorem val_abs (l:List UInt8):(val l).natAbs < 10 ^ l.length:=by
 have h1:nat (digs l) < 10 ^ (digs l).length:=nat_lt _ (digs_dig l)
 have h2:10 ^ (digs l).length≤10 ^ l.length:=Nat.pow_le_pow_right (by decide) (digs_le l)
 unfold val
 split <;> omega
theorem canon_len {z:Int} {K:Nat} (hK:1≤K) (h:z.natAbs < 10 ^ K):(canon z).length≤K+1:=by
 unfold canon
 split
 ·have:=nDigits_le z.natAbs K hK h
  simp only [List.length_cons,Lib.decDigits_length];omega
 ·unfold canonN
  split
  ·simp
  ·have:=nDigits_le z.toNat K hK (by omega)
   rw [Lib.decDigits_length];omega
theorem two_pow (K:Nat):2 * 10 ^ K≤10 ^ (K+1):=by rw [Nat.pow_succ];omega
theorem sub_len {l m:List UInt8} {K:Nat} (hl:l.length≤K) (hm:m.length≤K):(canon (val l - val m)).length≤K+2:=by
 have h1:=val_abs l
 have h2:=val_abs m
 have h3:10 ^ l.length≤10 ^ K:=Nat.pow_le_pow_right (by decide) hl
 have h4:10 ^ m.length≤10 ^ K:=Nat.pow_le_pow_right (by decide) hm
 have h5:=two_pow K
 exact canon_len (by omega) (by omega)
end
section
open Num Go
def den (d:List UInt8):Int:=if val d=0 then 1 else val d
def denS (d:List UInt8):List UInt8:=if val d=0 then [49] else d
theorem val_one:val [49]=1:=by decide
theorem val_denS (d:List UInt8):val (denS d)=den d:=by unfold denS den;split;exact val_one;rfl
theorem den_ne (d:List UInt8):den d ≠ 0:=by unfold den;split <;> omega
def gcdZ (N D:Int):Nat:=Nat.gcd N.natAbs D.natAbs
def rnum (N D:Int):Int:=(if D < 0 then -N else N).fdiv (gcdZ N D)
def rden (N D:Int):Int:=(if D < 0 then -D else D).fdiv (gcdZ N D)
def fden (z:Int):List UInt8:=if canon z=[49] then [] else canon z
theorem rnum_one:rnum 1 1=1:=by unfold rnum gcdZ;simp
theorem rden_one:rden 1 1=1:=by unfold rden gcdZ;simp
theorem canon_one:canon 1=[49]:=by
 unfold canon canonN
 rw [if_neg (by decide),if_neg (by decide),Lib.decDigits]
 rfl
theorem fden_one:fden 1=[]:=by unfold fden;rw [if_pos canon_one]
theorem gcdZ_neg (N D:Int):gcdZ (-N) (-D)=gcdZ N D:=by unfold gcdZ;rw [Int.natAbs_neg,Int.natAbs_neg]
theorem gcdZ_pos {N D:Int} (h:D ≠ 0):0 < gcdZ N D:=Nat.gcd_pos_of_pos_right _ (by omega)
theorem nat_digs (l:List UInt8):nat (digs l)=(val l).natAbs:=by rw [val_sgn];cases negs l <;> simp [sgn]
theorem canon_nat (n:Nat):canon (n:Int)=canonN n:=by unfold canon;rw [if_neg (by omega)];simp
theorem num_mod (N D:Int):N.natAbs % gcdZ N D=0:=Nat.mod_eq_zero_of_dvd (Nat.gcd_dvd_left _ _)
theorem den_mod (N D:Int):D.natAbs % gcdZ N D=0:=Nat.mod_eq_zero_of_dvd (Nat.gcd_dvd_right _ _)
theorem gcdZ_le {N D:Int} (h:D ≠ 0):gcdZ N D≤D.natAbs:=Nat.gcd_le_right _ (by omega)
theorem canonN_len {n K:Nat} (hK:1≤K) (h:n < 10 ^ K):(canonN n).length≤K+1:=by rw [← canon_nat];exact canon_len hK (by simpa using h)
theorem val_lt {l:List UInt8} {K:Nat} (h:l.length≤K):(val l).natAbs < 10 ^ K:=Nat.lt_of_lt_of_le (val_abs l) (Nat.pow_le_pow_right (by decide) h)
theorem neg_len {l:List UInt8} {K:Nat} (hK:1≤K) (h:l.length≤K):(canon (-val l)).length≤K+1:=canon_len hK (by rw [Int.natAbs_neg];exact val_lt h)
theorem fdiv_abs (N:Int) (g:Nat) (hg:0 < g) (h:N.natAbs % g=0):(N.fdiv g).natAbs≤N.natAbs:=by
 have hd:(g:Int) ∣ N:=Int.ofNat_dvd_left.2 (Nat.dvd_of_mod_eq_zero h)
 obtain ⟨k,rfl⟩:=hd
 rw [Int.mul_fdiv_cancel_left _ (by omega),Int.natAbs_mul]
 exact Nat.le_mul_of_pos_left _ (by omega)
theorem rnum_abs {N D:Int} (h:D ≠ 0):(rnum N D).natAbs≤N.natAbs:=by
 unfold rnum
 have:=fdiv_abs (if D < 0 then -N else N) (gcdZ N D) (gcdZ_pos h) (by split <;> simp [num_mod])
 refine Nat.le_trans this ?_
 split <;> simp
theorem rden_abs {N D:Int} (h:D ≠ 0):(rden N D).natAbs≤D.natAbs:=by
 unfold rden
 have:=fdiv_abs (if D < 0 then -D else D) (gcdZ N D) (gcdZ_pos h) (by split <;> simp [den_mod])
 refine Nat.le_trans this ?_
 split <;> simp
theorem canon_len_of {z y:Int} {l:List UInt8} {K:Nat} (hK:1≤K) (h:z.natAbs≤y.natAbs) (hy:y=val l) (hl:l.length≤K):(canon z).length≤K+1:=canon_len hK (by subst hy;exact Nat.lt_of_le_of_lt h (val_lt hl))
end
section
open Go.RowKit Num
structure LotP where
 id:List UInt8
 ins:List UInt8
 acq:Int
 opn:Int
 q:List UInt8
 c:List UInt8
 u:List UInt8
abbrev str (l:List UInt8):Value:=.string ⟨l.toArray⟩
def LotP.v (x:LotP):Value:=.agg #[.string ⟨x.id.toArray⟩,.string ⟨x.ins.toArray⟩,.int .i64 x.acq,.int .i64 x.opn,.string ⟨x.q.toArray⟩,.string ⟨x.c.toArray⟩,.string ⟨x.u.toArray⟩]
theorem cmpI_lt (a b:Int):cmpI a b < 0 ↔ a < b:=by
 unfold cmpI;split
 ·omega
 ·split <;> omega
def Box (w:World) (b:Nat) (cs:Array Value) (T:TypeId):Prop:=b < w.heap.size∧w.heap[b]? = some (.cells cs T (0,0))
theorem Box.below {w w':World} {b:Nat} {cs:Array Value} {T:TypeId} (h:Box w b cs T) (hb:Below w.heap.size w w'):Box w' b cs T :=
 ⟨Nat.lt_of_lt_of_le h.1 hb.size,(hb.block _ h.1).trans h.2⟩
theorem Box.cell {w:World} {b:Nat} {cs:Array Value} {T:TypeId} (h:Box w b cs T) (j:Nat):w.cell? ⟨b,j,none⟩=cs[j]? := cell_at h.2 j
theorem Box.new (w:World) (cs:Array Value) (T:TypeId) (n:Nat):Box ((w.alloc (.cells cs T)).drewN n) w.heap.size cs T:=⟨by show w.heap.size < (w.alloc _).heap.size;simp,heap_alloc_new w _⟩
theorem Box.new0 (w:World) (cs:Array Value) (T:TypeId):Box (w.alloc (.cells cs T)) w.heap.size cs T:=Box.new w cs T 0
theorem below_alloc (w:World) (o:Obj):Below w.heap.size w (w.alloc o):=(Below.refl _ _).alloc (Nat.le_refl _) _
end
end Go.Proofs.YtbcebibkpfklnaaGreatDoor
