/- Empty -/
import Derived.Test.YtejkibnaidiklaaGreatDoorJValue
set_option maxHeartbeats 16000000
set_option maxRecDepth 100000
namespace Go.Proofs.YtejkibnaidiklaaGreatDoor
open Tryz
open Go.RowKit Num
theorem Lq:(prog.info? 59).map (·.size)=some 21:=by kernel_rfl
theorem aY(f:aE)(pa oa:Option Addr)(pc oc:Nat):(prog.info? 59).map (·.size)=some (f.cells pa pc oa oc).size:=Lq
def aE.zero(f:aE)(i:Nat):Bool :=
 if i=0 then f.ins.isEmpty else if i=1 then f.other.isEmpty else if i=2 then f.cur.isEmpty else if i=3 then f.target.isEmpty else if i=10 then decide (f.picks.length=0) else if i=11 then decide (f.options.length=0) else if i=12 then decide (f.choice=0) else(f.num i).none
theorem bBv(f:aE)(i:Nat)(hi:i=4∨i=5∨i=6∨i=7∨i=8∨i=9)(pa oa:Option Addr)(pc oc:Nat)(w:World):
  Calls prog 186 #[.agg (f.cells pa pc oa oc),.int .i64 (i:Int)] w fun e w'=>e=.returned (f.num i).agg/\Below w.heap.size w w':=by
 rcases hi with rfl|rfl|rfl|rfl|rfl|rfl
 all_goals exact mH f pa oa pc oc _ _ _ w (fun W=>by kernel_rfl)
theorem bBz(f:aE)(i:Nat)(hi:i=4∨i=5∨i=6∨i=7∨i=8∨i=9)(pa oa:Option Addr)(pc oc:Nat)(w:World):
  Calls prog 127 #[.agg (f.cells pa pc oa oc),.int .i64 (i:Int)] w fun e w'=>e=.returned (.bool (f.zero i))/\Below w.heap.size w w':=by
 have HV:=Hd (fun W=>bBv f i hi pa oa pc oc W);have hz:f.zero i=(f.num i).none:=by rcases hi with rfl|rfl|rfl|rfl|rfl|rfl <;> rfl
 rw[hz];clear hz;unfold bZ.none;unfold bZ.agg at HV;generalize f.num i=x at *;obtain⟨n,d⟩:=x;dsimp only at *;have HFB:=Hd (aP.new0 w (f.cells pa pc oa oc) 59);have hsz:Hid ((prog.info? 59).map (·.size)=some (f.cells pa pc oa oc).size):=aY f pa oa pc oc;generalize f.cells pa pc oa oc=cs at *;cases n <;> cases d
 all_goals
  rcases hi with rfl|rfl|rfl|rfl|rfl|rfl
  all_goals
   go_enter func127,ntmps127;go_wp2_with (refine wpList_load_row rfl 59 _ rfl w.heap.size rfl 59 cs (0,0) _ HFB.out.2 underlying59 rfl hsz.out ?_);refine(HV.out _).mono ?_;rintro e w1 ⟨rfl,hb1⟩;go_wp2;go_ret;exact⟨rfl,aA (aB w _) hb1⟩
theorem bAy(n:Nat):decide (n=0)=((n:Int)==0):=by rw[Bool.eq_iff_iff];simp
theorem bBn(n:Int):decide (n=0)=(n==0):=by rw[Bool.eq_iff_iff];simp
theorem Rd(f:aE)(i:Nat)(hi:i<13)(pa oa:Option Addr)(pc oc:Nat)(w:World):
  Calls prog 127 #[.agg (f.cells pa pc oa oc),.int .i64 (i:Int)] w fun e w'=>e=.returned (.bool (f.zero i))/\Below w.heap.size w w':=by
 by_cases hn:i=4∨i=5∨i=6∨i=7∨i=8∨i=9
 ·exact bBz f i hn pa oa pc oc w
 ·have hm:i=0∨i=1∨i=2∨i=3∨i=10∨i=11∨i=12:=by omega
  clear hn hi;unfold aE.zero aE.cells;obtain⟨key,stamp,cancelled,day,kind,ins,other,cur,target,fq,amt,fee,price,ratio,share,picks,os,choice⟩:=f;dsimp only;rw[bAy,bAy,bBn];rcases hm with rfl|rfl|rfl|rfl|rfl|rfl|rfl
  all_goals simp only[Nat.reduceEqDiff,if_true,if_false]
  cases h:ins.isEmpty
  rotate_left 2
  cases h:other.isEmpty
  rotate_left 2
  cases h:cur.isEmpty
  rotate_left 2
  cases h:target.isEmpty
  rotate_left 2
  cases h:((picks.length:Int)==0)
  rotate_left 2
  cases h:((os.length:Int)==0)
  rotate_left 2
  cases h:(choice==0)
  all_goals
   go_enter func127,ntmps127;go_wp2;go_ret;exact⟨by first|rfl|simp[h],aB w _⟩
end Go.Proofs.YtejkibnaidiklaaGreatDoor
