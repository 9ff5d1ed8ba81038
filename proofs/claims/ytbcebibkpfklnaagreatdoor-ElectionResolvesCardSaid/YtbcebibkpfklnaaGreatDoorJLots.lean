/- Ref01 Ref19 Lots Mul -/
import Derived.Test.YtbcebibkpfklnaaGreatDoorJAdd
import Derived.Test.YtbcebibkpfklnaaGreatDoorJDivide
set_option maxHeartbeats 16000000
set_option maxRecDepth 100000
namespace Go.Proofs.YtbcebibkpfklnaaGreatDoor
section
open Go.RowKit Num
attribute [local go_sem] str_append str_extract str_size
def Lots (w:World) (a:Option Addr) (ls:List LotP):Prop :=
 ls=[]∨∃ b off,a=some ⟨b,off,none⟩∧b < w.heap.size∧∀ k x,ls[k]? = some x →
  w.cell? ⟨b,off+k * 7,none⟩=some (str x.id)∧w.cell? ⟨b,off+k * 7+1,none⟩=some (str x.ins)∧w.cell? ⟨b,off+k * 7+2,none⟩=some (.int .i64 x.acq)∧w.cell? ⟨b,off+k * 7+3,none⟩=some (.int .i64 x.opn) ∧
  w.cell? ⟨b,off+k * 7+4,none⟩=some (str x.q)∧w.cell? ⟨b,off+k * 7+5,none⟩=some (str x.c)∧w.cell? ⟨b,off+k * 7+6,none⟩=some (str x.u)
theorem Lots.below {w w':World} {a:Option Addr} {ls:List LotP} (h:Lots w a ls) (hb:Below w.heap.size w w'):Lots w' a ls:=by
 rcases h with h | ⟨b,off,ha,hlt,hc⟩
 ·exact .inl h
 ·have hcell:∀ o,w'.cell? ⟨b,o,none⟩=w.cell? ⟨b,o,none⟩:=fun o=>hb.cell (p:=⟨b,o,none⟩) hlt
  refine .inr ⟨b,off,ha,Nat.lt_of_lt_of_le hlt hb.size,fun k x hx => ?_⟩
  simp only [hcell]
  exact hc k x hx
theorem Lots.addr {w:World} {a:Option Addr} {ls:List LotP} (h:Lots w a ls) {k:Nat} {x:LotP} (hx:ls[k]? = some x) :
  ∃ b off,a=some ⟨b,off,none⟩ ∧
  w.cell? ⟨b,off+k * 7,none⟩=some (str x.id)∧w.cell? ⟨b,off+k * 7+1,none⟩=some (str x.ins)∧w.cell? ⟨b,off+k * 7+2,none⟩=some (.int .i64 x.acq)∧w.cell? ⟨b,off+k * 7+3,none⟩=some (.int .i64 x.opn) ∧
  w.cell? ⟨b,off+k * 7+4,none⟩=some (str x.q)∧w.cell? ⟨b,off+k * 7+5,none⟩=some (str x.c)∧w.cell? ⟨b,off+k * 7+6,none⟩=some (str x.u):=by
 rcases h with h | ⟨b,off,ha,_,hc⟩
 ·rw [h] at hx;simp at hx
 ·exact ⟨b,off,ha,hc k x hx⟩
end
section
open Go.RowKit Num
attribute [local go_sem] str_append str_extract str_size
def LotP.fits (x:LotP):Prop:=x.id.length≤9223372036854775807∧x.ins.length≤9223372036854775807∧x.q.length≤9223372036854775807∧x.c.length≤9223372036854775807∧x.u.length≤9223372036854775807
def LotP.small (x:LotP):Prop:=x.id.length≤1000∧x.ins.length≤1000∧x.q.length≤1000∧x.c.length≤1000∧x.u.length≤1000
theorem Lots.take {w:World} {a:Option Addr} {ls:List LotP} (h:Lots w a ls) (k:Nat):Lots w a (ls.take k):=by
 rcases h with h | ⟨b,off,ha,hlt,hc⟩
 ·exact .inl (by rw [h];simp)
 ·refine .inr ⟨b,off,ha,hlt,fun j x hx=>hc j x ?_⟩
  rw [List.getElem?_take] at hx
  split at hx
  ·exact hx
  ·cases hx
end
section
open Go.RowKit Num
theorem times_row (x y:Nat) (a a':Option Addr) (cap cap':Nat) (w:World) (h1:(groupsOf x).length≤100000000000) (h2:(groupsOf y).length≤100000000000)
  (hr:Row w a (gs (groupsOf x))) (hr':Row w a' (gs (groupsOf y))) :
  Calls Tryz.prog 227 #[.slice a (groupsOf x).length cap,.slice a' (groupsOf y).length cap'] w fun e w' => ∃ b c,e = .returned (.slice b (groupsOf (x * y)).length c)∧(groupsOf (x * y)).length≤c∧Row w' b (gs (groupsOf (x * y)))∧Below w.heap.size w w':=by
 refine (times_any x y a a' cap cap' w h1 h2 hr hr').mono ?_
 rintro e w' ⟨b,c,rfl,hc,_,_,⟨z,hG,_⟩,hb⟩
 have h:=hG.row
 rw [gs_append] at h
 exact ⟨_,c,rfl,hc,h.take,hb⟩
theorem sgn_mul (nx ny:Bool) (x y:Nat):sgn nx x * sgn ny y=sgn (nx != ny) (x * y):=by
 cases nx <;> cases ny <;> simp [sgn,Int.neg_mul,Int.mul_neg]
theorem txt_sgn (n:Bool) (x:Nat):txt n x=canon (sgn n x):=txt_canon n x
theorem Mul_any (l m:List UInt8) (w:World) (hE:Env w) (hl:l.length≤10000000000) (hm:m.length≤10000000000) :
  Calls Tryz.prog 195 #[.string ⟨l.toArray⟩,.string ⟨m.toArray⟩] w fun e w'=>e = .returned (.string ⟨(canon (val l * val m)).toArray⟩)∧Below w.heap.size w w':=by
 have H1:=Lib.hid (fun W=>read_any l W (by omega))
 have H2:=Lib.hid (fun W=>read_any m W (by omega))
 have g1:=groups_le l
 have g2:=groups_le m
 rw [val_sgn l,val_sgn m,sgn_mul,← txt_sgn]
 generalize nat (digs l)=x at *
 generalize nat (digs m)=y at *
 generalize negs l=nx at *
 generalize negs m=ny at *
 have H3:=Lib.hid (times_row x y)
 have HG:=Lib.hid (And.intro g1 (And.intro g2 (times_len x y)))
 have HE:=Lib.hid hE
 clear hE g1 g2
 go_enter Tryz.func195,Tryz.ntmps195
 go_wp2_with fail
 refine (H1.out _).mono ?_
 rintro e w1 ⟨a,c,rfl,hc,hf,hr,hb⟩
 go_wp2_with fail
 refine (H2.out _).mono ?_
 rintro e w2 ⟨a',c',rfl,hc',hf',hr',hb'⟩
 have HX:=Lib.hid (fun o1 o2 n=>show Below w2.heap.size w2 (((w2.alloc o1).alloc o2).drewN n) from below_drewN (((Below.refl _ _).alloc (Nat.le_refl _) _).alloc (by simp) _) n)
 have HR:=Lib.hid (And.intro (hr.below hb') hr')
 clear hr hr'
 go_wp2_with fail
 go_region_held3 (fun W=>W.cell? ⟨w2.heap.size,0,none⟩=some (.bool nx)∧W.cell? ⟨w2.heap.size+1,0,none⟩=some (.bool ny)∧W.cell? ⟨w2.heap.size,1,none⟩=some (.slice a (groupsOf x).length c)∧W.cell? ⟨w2.heap.size+1,1,none⟩=some (.slice a' (groupsOf y).length c'))
  (first | exact ⟨k0,k1,k2,k3⟩ | exact ⟨(hb4.cell (p:=⟨w2.heap.size,0,none⟩) hk).trans k0,(hb4.cell (p:=⟨w2.heap.size+1,0,none⟩) hk').trans k1,(hb4.cell (p:=⟨w2.heap.size,1,none⟩) hk).trans k2,(hb4.cell (p:=⟨w2.heap.size+1,1,none⟩) hk').trans k3⟩ | go_keep)
  (first | (go_at_call 227;refine (H3.out a a' c c' _ (by have:=HG.out;omega) (by have:=HG.out;omega) (HR.out.1.below (HX.out _ _ _)) (HR.out.2.below (HX.out _ _ _))).mono ?_;rintro e w3 ⟨b3,c3,rfl,hc3,hr3,hb3⟩;have q:=boxes2 (n:=1) hb3;have k0:=cell_at q.1 0;have k2:=cell_at q.1 1;have k1:=cell_at q.2 0;have k3:=cell_at q.2 1;have hk:w2.heap.size < w3.heap.size:=(Array.getElem?_eq_some_iff.1 q.1).1;have hk':w2.heap.size+1 < w3.heap.size:=(Array.getElem?_eq_some_iff.1 q.2).1;have hbw3:=below_up (below_up (below_up hb hb') (HX.out _ _ 1)) hb3;clear q hb3) | (go_at_call 153;refine (text_any (x * y) (nx != ny) b3 c3 _ (HE.out.below hbw3) hc3 (by have:=HG.out;omega) hr3).mono ?_;rintro e w4 ⟨rfl,hb4⟩))
 go_wp2
 go_ret
 exact ⟨rfl,below_up hbw3 hb4⟩
theorem Neg_any (l:List UInt8) (w:World) (hE:Env w) (hl:l.length≤10000000000) :
  Calls Tryz.prog 201 #[.string ⟨l.toArray⟩] w fun e w'=>e = .returned (.string ⟨(canon (-val l)).toArray⟩)∧Below w.heap.size w w':=by
 have H1:=Lib.hid (fun W=>read_any l W (by omega))
 have g1:=groups_le l
 rw [val_sgn l,← sgn_not,← txt_sgn]
 generalize nat (digs l)=x at *
 generalize negs l=nx at *
 have HG:=Lib.hid g1
 have HE:=Lib.hid hE
 clear hE g1
 go_enter Tryz.func201,Tryz.ntmps201
 go_wp2_with fail
 refine (H1.out _).mono ?_
 rintro e w1 ⟨a,c,rfl,hc,hf,hr,hb⟩
 have HR:=Lib.hid hr
 have HX:=Lib.hid (fun o=>show Below w1.heap.size w1 (w1.alloc o) from (Below.refl _ _).alloc (Nat.le_refl _) _)
 clear hr
 go_wp2_with fail
 refine (text_any x (!nx) a c _ (HE.out.below (below_up hb (HX.out _))) hc (by have:=HG.out;omega) (HR.out.below (HX.out _))).mono ?_
 rintro e w4 ⟨rfl,hb4⟩
 go_wp2
 go_ret
 exact ⟨rfl,below_up (below_up hb (HX.out _)) hb4⟩
end
end Go.Proofs.YtbcebibkpfklnaaGreatDoor
