/- Ref01 Ref19 Lots Mul -/
import Derived.Test.YthjekgfoidmagaaGreatDoorUAdd
import Derived.Test.YthjekgfoidmagaaGreatDoorUDivide
set_option maxHeartbeats 16000000
set_option maxRecDepth 100000
namespace Go.Proofs.YthjekgfoidmagaaGreatDoor
open Tryz
section
open Go.RowKit Num
attribute [local go_sem] eW eN aV
def Jj(w:World)(a:Option Addr)(ls:List Bd):Prop :=
 ls=[]∨∃b off,a=some ⟨b,off,none⟩/\b<w.heap.size/\∀k x,ls[k]?=some x ->
  w.cell? ⟨b,off+k*7,none⟩=some (Pm x.id)/\w.cell? ⟨b,off+k*7+1,none⟩=some (Pm x.ins)/\w.cell? ⟨b,off+k*7+2,none⟩=some (.int .i64 x.acq)/\w.cell? ⟨b,off+k*7+3,none⟩=some (.int .i64 x.opn) /\
  w.cell? ⟨b,off+k*7+4,none⟩=some (Pm x.q)/\w.cell? ⟨b,off+k*7+5,none⟩=some (Pm x.c)/\w.cell? ⟨b,off+k*7+6,none⟩=some (Pm x.u)
theorem Jj.below{w w':World}{a:Option Addr}{ls:List Bd}(h:Jj w a ls)(hb:Below w.heap.size w w'):Jj w' a ls:=by
 rcases h with h|⟨b,off,ha,hlt,hc⟩
 ·exact .inl h
 ·have hcell:∀o,w'.cell? ⟨b,o,none⟩=w.cell? ⟨b,o,none⟩:=fun o=>hb.cell (p:=⟨b,o,none⟩) hlt
  refine .inr ⟨b,off,ha,Nat.lt_of_lt_of_le hlt hb.size,fun k x hx=>?_⟩;simp only[hcell];exact hc k x hx
theorem Jj.addr{w:World}{a:Option Addr}{ls:List Bd}(h:Jj w a ls){k:Nat}{x:Bd}(hx:ls[k]?=some x):
  ∃b off,a=some ⟨b,off,none⟩ /\
  w.cell? ⟨b,off+k*7,none⟩=some (Pm x.id)/\w.cell? ⟨b,off+k*7+1,none⟩=some (Pm x.ins)/\w.cell? ⟨b,off+k*7+2,none⟩=some (.int .i64 x.acq)/\w.cell? ⟨b,off+k*7+3,none⟩=some (.int .i64 x.opn) /\
  w.cell? ⟨b,off+k*7+4,none⟩=some (Pm x.q)/\w.cell? ⟨b,off+k*7+5,none⟩=some (Pm x.c)/\w.cell? ⟨b,off+k*7+6,none⟩=some (Pm x.u):=by
 rcases h with h|⟨b,off,ha,_,hc⟩
 ·rw[h] at hx;simp at hx
 ·exact⟨b,off,ha,hc k x hx⟩
end
section
open Go.RowKit Num
attribute [local go_sem] eW eN aV
def Bd.fits(x:Bd):Prop:=x.id.length<=9223372036854775807/\x.ins.length<=9223372036854775807/\x.q.length<=9223372036854775807/\x.c.length<=9223372036854775807/\x.u.length<=9223372036854775807
def Bd.small(x:Bd):Prop:=x.id.length<=1000/\x.ins.length<=1000/\x.q.length<=1000/\x.c.length<=1000/\x.u.length<=1000
theorem Jj.take{w:World}{a:Option Addr}{ls:List Bd}(h:Jj w a ls)(k:Nat):Jj w a (ls.take k):=by
 rcases h with h|⟨b,off,ha,hlt,hc⟩
 ·exact .inl (by rw[h];simp)
 ·refine .inr ⟨b,off,ha,hlt,fun j x hx=>hc j x ?_⟩;rw[List.getElem?_take] at hx;split at hx
  ·exact hx
  ·cases hx
end
section
open Go.RowKit Num
theorem Pg(x y:Nat)(a a':Option Addr)(cap cap':Nat)(w:World)(h1:(aC x).length<=100000000000)(h2:(aC y).length<=100000000000)
  (hr:dT w a (gs (aC x))) (hr':dT w a' (gs (aC y))) :
  Calls prog 311 #[.slice a (aC x).length cap,.slice a' (aC y).length cap'] w fun e w'=>∃b c,e=.returned (.slice b (aC (x*y)).length c)/\(aC (x*y)).length<=c/\dT w' b (gs (aC (x*y)))/\Below w.heap.size w w':=by
 refine(uR x y a a' cap cap' w h1 h2 hr hr').mono ?_;rintro e w' ⟨b,c,rfl,hc,_,_,⟨z,hG,_⟩,hb⟩;have h:=hG.row;rw[gY] at h;exact⟨_,c,rfl,hc,h.take,hb⟩
theorem Wq(nx ny:Bool)(x y:Nat):lX nx x*lX ny y=lX (nx != ny) (x*y):=by
 cases nx <;> cases ny <;> simp[lX,Int.neg_mul,Int.mul_neg]
theorem yC(n:Bool)(x:Nat):Fw n x=aJ (lX n x):=Cf n x
theorem Fq(l m:List UInt8)(w:World)(hE:iE w)(hl:l.length<=10000000000)(hm:m.length<=10000000000):
  Calls prog 291 #[.string ⟨l.toArray⟩,.string ⟨m.toArray⟩] w fun e w'=>e=.returned (.string ⟨(aJ (val l*val m)).toArray⟩)/\Below w.heap.size w w':=by
 have H1:=Hd (fun W=>dX l W (by omega));have H2:=Hd (fun W=>dX m W (by omega));have g1:=dL l;have g2:=dL m;rw[fG l,fG m,Wq,<-yC];generalize bK (aZ l)=x at *;generalize bK (aZ m)=y at *;generalize dD l=nx at *;generalize dD m=ny at *;have H3:=Hd (Pg x y);have HG:=Hd (And.intro g1 (And.intro g2 (Ch x y)));have HE:=Hd hE;clear hE g1 g2;go_enter func291,ntmps291;go_wp2_with fail;refine(H1.out _).mono ?_;rintro e w1 ⟨a,c,rfl,hc,hf,hr,hb⟩;go_wp2_with fail;refine(H2.out _).mono ?_;rintro e w2 ⟨a',c',rfl,hc',hf',hr',hb'⟩;have HX:=Hd (fun o1 o2 n=>show Below w2.heap.size w2 (((w2.alloc o1).alloc o2).drewN n) from aD (((Br _ _).alloc (Nl _) _).alloc (by simp) _) n);have HR:=Hd (And.intro (hr.below hb') hr');clear hr hr';go_wp2_with fail;go_region_held3 (fun W=>W.cell? ⟨w2.heap.size,0,none⟩=some (.bool nx)/\W.cell? ⟨w2.heap.size+1,0,none⟩=some (.bool ny)/\W.cell? ⟨w2.heap.size,1,none⟩=some (.slice a (aC x).length c)/\W.cell? ⟨w2.heap.size+1,1,none⟩=some (.slice a' (aC y).length c'))
  (first|exact⟨k0,k1,k2,k3⟩|exact⟨(hb4.cell (p:=⟨w2.heap.size,0,none⟩) hk).trans k0,(hb4.cell (p:=⟨w2.heap.size+1,0,none⟩) hk').trans k1,(hb4.cell (p:=⟨w2.heap.size,1,none⟩) hk).trans k2,(hb4.cell (p:=⟨w2.heap.size+1,1,none⟩) hk').trans k3⟩|go_keep)
  (first|(go_at_call 311;refine(H3.out a a' c c' _ (by have:=HG.out;omega) (by have:=HG.out;omega) (HR.out.1.below (HX.out _ _ _)) (HR.out.2.below (HX.out _ _ _))).mono ?_;rintro e w3 ⟨b3,c3,rfl,hc3,hr3,hb3⟩;have q:=vM (n:=1) hb3;have k0:=aS q.1 0;have k2:=aS q.1 1;have k1:=aS q.2 0;have k3:=aS q.2 1;have hk:w2.heap.size<w3.heap.size:=(Ai.1 q.1).1;have hk':w2.heap.size+1<w3.heap.size:=(Ai.1 q.2).1;have hbw3:=aA (aA (aA hb hb') (HX.out _ _ 1)) hb3;clear q hb3)|(go_at_call 220;refine(fJ (x*y) (nx != ny) b3 c3 _ (HE.out.below hbw3) hc3 (by have:=HG.out;omega) hr3).mono ?_;rintro e w4 ⟨rfl,hb4⟩))
 go_wp2;go_ret;exact⟨rfl,aA hbw3 hb4⟩
theorem Ox(l:List UInt8)(w:World)(hE:iE w)(hl:l.length<=10000000000):
  Calls prog 282 #[.string ⟨l.toArray⟩] w fun e w'=>e=.returned (.string ⟨(aJ (-val l)).toArray⟩)/\Below w.heap.size w w':=by
 have H1:=Hd (fun W=>dX l W (by omega));have g1:=dL l;rw[fG l,<-Nr,<-yC];generalize bK (aZ l)=x at *;generalize dD l=nx at *;have HG:=Hd g1;have HE:=Hd hE;clear hE g1;go_enter func282,ntmps282;go_wp2_with fail;refine(H1.out _).mono ?_;rintro e w1 ⟨a,c,rfl,hc,hf,hr,hb⟩;have HR:=Hd hr;have HX:=Hd (fun o=>show Below w1.heap.size w1 (w1.alloc o) from(Br _ _).alloc (Nl _) _);clear hr;go_wp2_with fail;refine(fJ x (!nx) a c _ (HE.out.below (aA hb (HX.out _))) hc (by have:=HG.out;omega) (HR.out.below (HX.out _))).mono ?_;rintro e w4 ⟨rfl,hb4⟩;go_wp2;go_ret;exact⟨rfl,aA (aA hb (HX.out _)) hb4⟩
end
end Go.Proofs.YthjekgfoidmagaaGreatDoor
