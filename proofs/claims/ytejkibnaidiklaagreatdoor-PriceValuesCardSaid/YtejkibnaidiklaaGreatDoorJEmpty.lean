/- Empty -/
import Derived.Test.YtejkibnaidiklaaGreatDoorJMem
import Derived.Test.YtejkibnaidiklaaGreatDoorJValue
import Derived.Laws.Rows
set_option maxHeartbeats 16000000
set_option maxRecDepth 100000
namespace Go.Proofs.YtejkibnaidiklaaGreatDoor
open Go.RowKit Num
theorem Lq:(Tryz.prog.info? 59).map (·.size)=some 21:=by kernel_rfl
theorem aY(f:aE)(pa oa:Option Addr)(pc oc:Nat):(Tryz.prog.info? 59).map (·.size)=some (f.cells pa pc oa oc).size:=Lq
def aE.zero(f:aE)(i:Nat):Bool :=
 if i=0 then f.ins.isEmpty else if i=1 then f.other.isEmpty else if i=2 then f.cur.isEmpty else if i=3 then f.target.isEmpty else if i=10 then decide (f.picks.length=0) else if i=11 then decide (f.options.length=0) else if i=12 then decide (f.choice=0) else(f.num i).none
theorem Zr(f:aE)(pa oa:Option Addr)(pc oc:Nat)(w:World):
  Calls Tryz.prog 127 #[.agg (f.cells pa pc oa oc),.int .i64 0] w fun e w'=>e=.returned (.bool (f.zero 0))∧Below w.heap.size w w':=by
 unfold aE.zero;obtain⟨key,stamp,cancelled,day,kind,ins,other,cur,target,fq,amt,fee,price,ratio,share,picks,os,choice⟩:=f;unfold aE.cells;dsimp only;simp only[Nat.reduceEqDiff,if_true,if_false];cases h:ins.isEmpty
 all_goals
  go_enter Tryz.func127,Tryz.ntmps127;go_wp2;go_ret;exact⟨by first|rfl|simp[h],aB w _⟩
theorem Zq(f:aE)(pa oa:Option Addr)(pc oc:Nat)(w:World):
  Calls Tryz.prog 127 #[.agg (f.cells pa pc oa oc),.int .i64 1] w fun e w'=>e=.returned (.bool (f.zero 1))∧Below w.heap.size w w':=by
 unfold aE.zero;obtain⟨key,stamp,cancelled,day,kind,ins,other,cur,target,fq,amt,fee,price,ratio,share,picks,os,choice⟩:=f;unfold aE.cells;dsimp only;simp only[Nat.reduceEqDiff,if_true,if_false];cases h:other.isEmpty
 all_goals
  go_enter Tryz.func127,Tryz.ntmps127;go_wp2;go_ret;exact⟨by first|rfl|simp[h],aB w _⟩
theorem Zp(f:aE)(pa oa:Option Addr)(pc oc:Nat)(w:World):
  Calls Tryz.prog 127 #[.agg (f.cells pa pc oa oc),.int .i64 2] w fun e w'=>e=.returned (.bool (f.zero 2))∧Below w.heap.size w w':=by
 unfold aE.zero;obtain⟨key,stamp,cancelled,day,kind,ins,other,cur,target,fq,amt,fee,price,ratio,share,picks,os,choice⟩:=f;unfold aE.cells;dsimp only;simp only[Nat.reduceEqDiff,if_true,if_false];cases h:cur.isEmpty
 all_goals
  go_enter Tryz.func127,Tryz.ntmps127;go_wp2;go_ret;exact⟨by first|rfl|simp[h],aB w _⟩
theorem Zo(f:aE)(pa oa:Option Addr)(pc oc:Nat)(w:World):
  Calls Tryz.prog 127 #[.agg (f.cells pa pc oa oc),.int .i64 3] w fun e w'=>e=.returned (.bool (f.zero 3))∧Below w.heap.size w w':=by
 unfold aE.zero;obtain⟨key,stamp,cancelled,day,kind,ins,other,cur,target,fq,amt,fee,price,ratio,share,picks,os,choice⟩:=f;unfold aE.cells;dsimp only;simp only[Nat.reduceEqDiff,if_true,if_false];cases h:target.isEmpty
 all_goals
  go_enter Tryz.func127,Tryz.ntmps127;go_wp2;go_ret;exact⟨by first|rfl|simp[h],aB w _⟩
theorem Ve(f:aE)(pa oa:Option Addr)(pc oc:Nat)(w:World):
  Calls Tryz.prog 127 #[.agg (f.cells pa pc oa oc),.int .i64 10] w fun e w'=>e=.returned (.bool (f.zero 10))∧Below w.heap.size w w':=by
 unfold aE.zero;obtain⟨key,stamp,cancelled,day,kind,ins,other,cur,target,fq,amt,fee,price,ratio,share,picks,os,choice⟩:=f;unfold aE.cells;dsimp only;simp only[Nat.reduceEqDiff,if_true,if_false];have hd:decide (picks.length=0)=((picks.length:Int)==0):=by rw[Bool.eq_iff_iff];simp
 rw[hd];clear hd;cases h:((picks.length:Int)==0)
 all_goals
  go_enter Tryz.func127,Tryz.ntmps127;go_wp2;go_ret;exact⟨by first|rfl|simp[h],aB w _⟩
theorem Vd(f:aE)(pa oa:Option Addr)(pc oc:Nat)(w:World):
  Calls Tryz.prog 127 #[.agg (f.cells pa pc oa oc),.int .i64 11] w fun e w'=>e=.returned (.bool (f.zero 11))∧Below w.heap.size w w':=by
 unfold aE.zero;obtain⟨key,stamp,cancelled,day,kind,ins,other,cur,target,fq,amt,fee,price,ratio,share,picks,os,choice⟩:=f;unfold aE.cells;dsimp only;simp only[Nat.reduceEqDiff,if_true,if_false];have hd:decide (os.length=0)=((os.length:Int)==0):=by rw[Bool.eq_iff_iff];simp
 rw[hd];clear hd;cases h:((os.length:Int)==0)
 all_goals
  go_enter Tryz.func127,Tryz.ntmps127;go_wp2;go_ret;exact⟨by first|rfl|simp[h],aB w _⟩
theorem Vc(f:aE)(pa oa:Option Addr)(pc oc:Nat)(w:World):
  Calls Tryz.prog 127 #[.agg (f.cells pa pc oa oc),.int .i64 12] w fun e w'=>e=.returned (.bool (f.zero 12))∧Below w.heap.size w w':=by
 unfold aE.zero;obtain⟨key,stamp,cancelled,day,kind,ins,other,cur,target,fq,amt,fee,price,ratio,share,picks,os,choice⟩:=f;unfold aE.cells;dsimp only;simp only[Nat.reduceEqDiff,if_true,if_false];have hd:decide (choice=0)=((choice:Int)==0):=by rw[Bool.eq_iff_iff];simp
 rw[hd];clear hd;cases h:((choice:Int)==0)
 all_goals
  go_enter Tryz.func127,Tryz.ntmps127;go_wp2;go_ret;exact⟨by first|rfl|simp[h],aB w _⟩
theorem Zn(f:aE)(pa oa:Option Addr)(pc oc:Nat)(w:World):
  Calls Tryz.prog 127 #[.agg (f.cells pa pc oa oc),.int .i64 4] w fun e w'=>e=.returned (.bool (f.zero 4))∧Below w.heap.size w w':=by
 have HV:=Hd (fun W=>Ni f pa oa pc oc W);have hz:f.zero 4=(f.num 4).none:=rfl;rw[hz];clear hz;unfold bZ.none;unfold bZ.agg at HV;generalize f.num 4=x at *;obtain⟨n,d⟩:=x;dsimp only at *;have HFB:=Hd (aP.new0 w (f.cells pa pc oa oc) 59);have hsz:Hid ((Tryz.prog.info? 59).map (·.size)=some (f.cells pa pc oa oc).size):=aY f pa oa pc oc;generalize f.cells pa pc oa oc=cs at *;cases n with
 |nil =>
  cases d with
  |nil =>
   go_enter Tryz.func127,Tryz.ntmps127;go_wp2_with (refine wpList_load_row rfl 59 _ rfl w.heap.size rfl 59 cs (0,0) _ HFB.out.2 Tryz.underlying59 rfl hsz.out ?_);refine(HV.out _).mono ?_;rintro e w1 ⟨rfl,hb1⟩;go_wp2;go_ret;exact⟨rfl,aA (aB w _) hb1⟩
  |cons c2 r2 =>
   go_enter Tryz.func127,Tryz.ntmps127;go_wp2_with (refine wpList_load_row rfl 59 _ rfl w.heap.size rfl 59 cs (0,0) _ HFB.out.2 Tryz.underlying59 rfl hsz.out ?_);refine(HV.out _).mono ?_;rintro e w1 ⟨rfl,hb1⟩;go_wp2;go_ret;exact⟨rfl,aA (aB w _) hb1⟩
 |cons c1 r1 =>
  go_enter Tryz.func127,Tryz.ntmps127;go_wp2_with (refine wpList_load_row rfl 59 _ rfl w.heap.size rfl 59 cs (0,0) _ HFB.out.2 Tryz.underlying59 rfl hsz.out ?_);refine(HV.out _).mono ?_;rintro e w1 ⟨rfl,hb1⟩;go_wp2;go_ret;exact⟨rfl,aA (aB w _) hb1⟩
theorem Zm(f:aE)(pa oa:Option Addr)(pc oc:Nat)(w:World):
  Calls Tryz.prog 127 #[.agg (f.cells pa pc oa oc),.int .i64 5] w fun e w'=>e=.returned (.bool (f.zero 5))∧Below w.heap.size w w':=by
 have HV:=Hd (fun W=>Nh f pa oa pc oc W);have hz:f.zero 5=(f.num 5).none:=rfl;rw[hz];clear hz;unfold bZ.none;unfold bZ.agg at HV;generalize f.num 5=x at *;obtain⟨n,d⟩:=x;dsimp only at *;have HFB:=Hd (aP.new0 w (f.cells pa pc oa oc) 59);have hsz:Hid ((Tryz.prog.info? 59).map (·.size)=some (f.cells pa pc oa oc).size):=aY f pa oa pc oc;generalize f.cells pa pc oa oc=cs at *;cases n with
 |nil =>
  cases d with
  |nil =>
   go_enter Tryz.func127,Tryz.ntmps127;go_wp2_with (refine wpList_load_row rfl 59 _ rfl w.heap.size rfl 59 cs (0,0) _ HFB.out.2 Tryz.underlying59 rfl hsz.out ?_);refine(HV.out _).mono ?_;rintro e w1 ⟨rfl,hb1⟩;go_wp2;go_ret;exact⟨rfl,aA (aB w _) hb1⟩
  |cons c2 r2 =>
   go_enter Tryz.func127,Tryz.ntmps127;go_wp2_with (refine wpList_load_row rfl 59 _ rfl w.heap.size rfl 59 cs (0,0) _ HFB.out.2 Tryz.underlying59 rfl hsz.out ?_);refine(HV.out _).mono ?_;rintro e w1 ⟨rfl,hb1⟩;go_wp2;go_ret;exact⟨rfl,aA (aB w _) hb1⟩
 |cons c1 r1 =>
  go_enter Tryz.func127,Tryz.ntmps127;go_wp2_with (refine wpList_load_row rfl 59 _ rfl w.heap.size rfl 59 cs (0,0) _ HFB.out.2 Tryz.underlying59 rfl hsz.out ?_);refine(HV.out _).mono ?_;rintro e w1 ⟨rfl,hb1⟩;go_wp2;go_ret;exact⟨rfl,aA (aB w _) hb1⟩
theorem Zl(f:aE)(pa oa:Option Addr)(pc oc:Nat)(w:World):
  Calls Tryz.prog 127 #[.agg (f.cells pa pc oa oc),.int .i64 6] w fun e w'=>e=.returned (.bool (f.zero 6))∧Below w.heap.size w w':=by
 have HV:=Hd (fun W=>Ng f pa oa pc oc W);have hz:f.zero 6=(f.num 6).none:=rfl;rw[hz];clear hz;unfold bZ.none;unfold bZ.agg at HV;generalize f.num 6=x at *;obtain⟨n,d⟩:=x;dsimp only at *;have HFB:=Hd (aP.new0 w (f.cells pa pc oa oc) 59);have hsz:Hid ((Tryz.prog.info? 59).map (·.size)=some (f.cells pa pc oa oc).size):=aY f pa oa pc oc;generalize f.cells pa pc oa oc=cs at *;cases n with
 |nil =>
  cases d with
  |nil =>
   go_enter Tryz.func127,Tryz.ntmps127;go_wp2_with (refine wpList_load_row rfl 59 _ rfl w.heap.size rfl 59 cs (0,0) _ HFB.out.2 Tryz.underlying59 rfl hsz.out ?_);refine(HV.out _).mono ?_;rintro e w1 ⟨rfl,hb1⟩;go_wp2;go_ret;exact⟨rfl,aA (aB w _) hb1⟩
  |cons c2 r2 =>
   go_enter Tryz.func127,Tryz.ntmps127;go_wp2_with (refine wpList_load_row rfl 59 _ rfl w.heap.size rfl 59 cs (0,0) _ HFB.out.2 Tryz.underlying59 rfl hsz.out ?_);refine(HV.out _).mono ?_;rintro e w1 ⟨rfl,hb1⟩;go_wp2;go_ret;exact⟨rfl,aA (aB w _) hb1⟩
 |cons c1 r1 =>
  go_enter Tryz.func127,Tryz.ntmps127;go_wp2_with (refine wpList_load_row rfl 59 _ rfl w.heap.size rfl 59 cs (0,0) _ HFB.out.2 Tryz.underlying59 rfl hsz.out ?_);refine(HV.out _).mono ?_;rintro e w1 ⟨rfl,hb1⟩;go_wp2;go_ret;exact⟨rfl,aA (aB w _) hb1⟩
theorem Zk(f:aE)(pa oa:Option Addr)(pc oc:Nat)(w:World):
  Calls Tryz.prog 127 #[.agg (f.cells pa pc oa oc),.int .i64 7] w fun e w'=>e=.returned (.bool (f.zero 7))∧Below w.heap.size w w':=by
 have HV:=Hd (fun W=>Nf f pa oa pc oc W);have hz:f.zero 7=(f.num 7).none:=rfl;rw[hz];clear hz;unfold bZ.none;unfold bZ.agg at HV;generalize f.num 7=x at *;obtain⟨n,d⟩:=x;dsimp only at *;have HFB:=Hd (aP.new0 w (f.cells pa pc oa oc) 59);have hsz:Hid ((Tryz.prog.info? 59).map (·.size)=some (f.cells pa pc oa oc).size):=aY f pa oa pc oc;generalize f.cells pa pc oa oc=cs at *;cases n with
 |nil =>
  cases d with
  |nil =>
   go_enter Tryz.func127,Tryz.ntmps127;go_wp2_with (refine wpList_load_row rfl 59 _ rfl w.heap.size rfl 59 cs (0,0) _ HFB.out.2 Tryz.underlying59 rfl hsz.out ?_);refine(HV.out _).mono ?_;rintro e w1 ⟨rfl,hb1⟩;go_wp2;go_ret;exact⟨rfl,aA (aB w _) hb1⟩
  |cons c2 r2 =>
   go_enter Tryz.func127,Tryz.ntmps127;go_wp2_with (refine wpList_load_row rfl 59 _ rfl w.heap.size rfl 59 cs (0,0) _ HFB.out.2 Tryz.underlying59 rfl hsz.out ?_);refine(HV.out _).mono ?_;rintro e w1 ⟨rfl,hb1⟩;go_wp2;go_ret;exact⟨rfl,aA (aB w _) hb1⟩
 |cons c1 r1 =>
  go_enter Tryz.func127,Tryz.ntmps127;go_wp2_with (refine wpList_load_row rfl 59 _ rfl w.heap.size rfl 59 cs (0,0) _ HFB.out.2 Tryz.underlying59 rfl hsz.out ?_);refine(HV.out _).mono ?_;rintro e w1 ⟨rfl,hb1⟩;go_wp2;go_ret;exact⟨rfl,aA (aB w _) hb1⟩
theorem Zj(f:aE)(pa oa:Option Addr)(pc oc:Nat)(w:World):
  Calls Tryz.prog 127 #[.agg (f.cells pa pc oa oc),.int .i64 8] w fun e w'=>e=.returned (.bool (f.zero 8))∧Below w.heap.size w w':=by
 have HV:=Hd (fun W=>Nd f pa oa pc oc W);have hz:f.zero 8=(f.num 8).none:=rfl;rw[hz];clear hz;unfold bZ.none;unfold bZ.agg at HV;generalize f.num 8=x at *;obtain⟨n,d⟩:=x;dsimp only at *;have HFB:=Hd (aP.new0 w (f.cells pa pc oa oc) 59);have hsz:Hid ((Tryz.prog.info? 59).map (·.size)=some (f.cells pa pc oa oc).size):=aY f pa oa pc oc;generalize f.cells pa pc oa oc=cs at *;cases n with
 |nil =>
  cases d with
  |nil =>
   go_enter Tryz.func127,Tryz.ntmps127;go_wp2_with (refine wpList_load_row rfl 59 _ rfl w.heap.size rfl 59 cs (0,0) _ HFB.out.2 Tryz.underlying59 rfl hsz.out ?_);refine(HV.out _).mono ?_;rintro e w1 ⟨rfl,hb1⟩;go_wp2;go_ret;exact⟨rfl,aA (aB w _) hb1⟩
  |cons c2 r2 =>
   go_enter Tryz.func127,Tryz.ntmps127;go_wp2_with (refine wpList_load_row rfl 59 _ rfl w.heap.size rfl 59 cs (0,0) _ HFB.out.2 Tryz.underlying59 rfl hsz.out ?_);refine(HV.out _).mono ?_;rintro e w1 ⟨rfl,hb1⟩;go_wp2;go_ret;exact⟨rfl,aA (aB w _) hb1⟩
 |cons c1 r1 =>
  go_enter Tryz.func127,Tryz.ntmps127;go_wp2_with (refine wpList_load_row rfl 59 _ rfl w.heap.size rfl 59 cs (0,0) _ HFB.out.2 Tryz.underlying59 rfl hsz.out ?_);refine(HV.out _).mono ?_;rintro e w1 ⟨rfl,hb1⟩;go_wp2;go_ret;exact⟨rfl,aA (aB w _) hb1⟩
theorem Zi(f:aE)(pa oa:Option Addr)(pc oc:Nat)(w:World):
  Calls Tryz.prog 127 #[.agg (f.cells pa pc oa oc),.int .i64 9] w fun e w'=>e=.returned (.bool (f.zero 9))∧Below w.heap.size w w':=by
 have HV:=Hd (fun W=>Nc f pa oa pc oc W);have hz:f.zero 9=(f.num 9).none:=rfl;rw[hz];clear hz;unfold bZ.none;unfold bZ.agg at HV;generalize f.num 9=x at *;obtain⟨n,d⟩:=x;dsimp only at *;have HFB:=Hd (aP.new0 w (f.cells pa pc oa oc) 59);have hsz:Hid ((Tryz.prog.info? 59).map (·.size)=some (f.cells pa pc oa oc).size):=aY f pa oa pc oc;generalize f.cells pa pc oa oc=cs at *;cases n with
 |nil =>
  cases d with
  |nil =>
   go_enter Tryz.func127,Tryz.ntmps127;go_wp2_with (refine wpList_load_row rfl 59 _ rfl w.heap.size rfl 59 cs (0,0) _ HFB.out.2 Tryz.underlying59 rfl hsz.out ?_);refine(HV.out _).mono ?_;rintro e w1 ⟨rfl,hb1⟩;go_wp2;go_ret;exact⟨rfl,aA (aB w _) hb1⟩
  |cons c2 r2 =>
   go_enter Tryz.func127,Tryz.ntmps127;go_wp2_with (refine wpList_load_row rfl 59 _ rfl w.heap.size rfl 59 cs (0,0) _ HFB.out.2 Tryz.underlying59 rfl hsz.out ?_);refine(HV.out _).mono ?_;rintro e w1 ⟨rfl,hb1⟩;go_wp2;go_ret;exact⟨rfl,aA (aB w _) hb1⟩
 |cons c1 r1 =>
  go_enter Tryz.func127,Tryz.ntmps127;go_wp2_with (refine wpList_load_row rfl 59 _ rfl w.heap.size rfl 59 cs (0,0) _ HFB.out.2 Tryz.underlying59 rfl hsz.out ?_);refine(HV.out _).mono ?_;rintro e w1 ⟨rfl,hb1⟩;go_wp2;go_ret;exact⟨rfl,aA (aB w _) hb1⟩
theorem Rd(f:aE)(i:Nat)(hi:i<13)(pa oa:Option Addr)(pc oc:Nat)(w:World):
  Calls Tryz.prog 127 #[.agg (f.cells pa pc oa oc),.int .i64 (i:Int)] w fun e w'=>e=.returned (.bool (f.zero i))∧Below w.heap.size w w':=by
 match i,hi with
 |0,_=>exact Zr f pa oa pc oc w
 |1,_=>exact Zq f pa oa pc oc w
 |2,_=>exact Zp f pa oa pc oc w
 |3,_=>exact Zo f pa oa pc oc w
 |4,_=>exact Zn f pa oa pc oc w
 |5,_=>exact Zm f pa oa pc oc w
 |6,_=>exact Zl f pa oa pc oc w
 |7,_=>exact Zk f pa oa pc oc w
 |8,_=>exact Zj f pa oa pc oc w
 |9,_=>exact Zi f pa oa pc oc w
 |10,_=>exact Ve f pa oa pc oc w
 |11,_=>exact Vd f pa oa pc oc w
 |12,_=>exact Vc f pa oa pc oc w
end Go.Proofs.YtejkibnaidiklaaGreatDoor
