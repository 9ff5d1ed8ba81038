/- RField RField9 RFieldP RDay -/
import Derived.Test.YtgopbldkhlmbnaaGreatDoorJRZero
import Derived.Test.YtgopbldkhlmbnaaGreatDoorJROpts
set_option maxHeartbeats 16000000
set_option maxRecDepth 100000
namespace Go.Proofs.YtgopbldkhlmbnaaGreatDoor
section
open Go Go.RowKit Num
theorem rfield_0 (f:FactP) (pa oa:Option Addr) (pc oc:Nat) (w:World) (ht:f.tight) :
  Calls Tryz.prog 54 #[.agg (f.cells pa pc oa oc),.int .i64 0] w fun e w'=>e = .returned (.int .i64 (nameErr f.ins))∧Below w.heap.size w w':=by
 have HL:=Lib.hid (fun W=>show Calls Tryz.prog 73 #[.string ⟨f.ins.toArray⟩] W (fun e w'=>e = .returned (.int .i64 (nameErr f.ins))∧w'=W) from RName13_any f.ins W ht.small.ins)
 obtain ⟨z,hz⟩:∃ z,z=nameErr f.ins:=⟨_,rfl⟩
 rw [← hz] at HL ⊢
 clear hz
 obtain ⟨key,stamp,cancelled,day,kind,ins,other,cur,target,fq,amt,fee,price,ratio,share,picks,os,choice⟩:=f
 unfold FactP.cells at *
 dsimp only at *
 go_enter Tryz.func54,Tryz.ntmps54
 go_wp2_with fail
 refine (HL.out _).mono ?_
 rintro e w1 ⟨rfl,rfl⟩
 go_wp2
 go_ret
 exact ⟨rfl,below_alloc w _⟩
theorem rfield_1 (f:FactP) (pa oa:Option Addr) (pc oc:Nat) (w:World) (ht:f.tight) :
  Calls Tryz.prog 54 #[.agg (f.cells pa pc oa oc),.int .i64 1] w fun e w'=>e = .returned (.int .i64 (otherErr f (decide (f.kind=7∨f.kind=16))))∧Below w.heap.size w w':=by
 have HL:=Lib.hid (fun W (_:Below w.heap.size w W)=>ROther_any f pa oa pc oc W ht.small.other)
 obtain ⟨z,hz⟩:∃ z,z=otherErr f (decide (f.kind=7∨f.kind=16)):=⟨_,rfl⟩
 rw [← hz] at HL ⊢
 clear hz
 have HFB:=Lib.hid (Box.new0 w (f.cells pa pc oa oc) 36)
 have hsz:Hid ((Tryz.prog.info? 36).map (·.size)=some (f.cells pa pc oa oc).size):=factSize f pa oa pc oc
 generalize f.cells pa pc oa oc=cs at *
 go_enter Tryz.func54,Tryz.ntmps54
 go_wp2_with (refine wpList_load_row rfl 36 _ rfl w.heap.size rfl 36 cs (0,0) _ HFB.out.2 Tryz.underlying36 rfl hsz.out ?_)
 refine (HL.out _ (below_alloc w _)).mono ?_
 rintro e w1 ⟨rfl,hb⟩
 have HB:=Lib.hid (below_up (below_alloc w _) hb)
 clear hb
 go_wp2
 go_ret
 exact ⟨rfl,HB.out⟩
theorem rfield_2 (f:FactP) (pa oa:Option Addr) (pc oc:Nat) (w:World) (ht:f.tight) :
  Calls Tryz.prog 54 #[.agg (f.cells pa pc oa oc),.int .i64 2] w fun e w'=>e = .returned (.int .i64 (if isCode f.cur=true then 0 else 12))∧Below w.heap.size w w':=by
 have HL:=Lib.hid (fun W=>RCode_any f.cur W ht.small.cur)
 obtain ⟨z,hz⟩:∃ z,z=isCode f.cur:=⟨_,rfl⟩
 rw [← hz] at HL ⊢
 clear hz
 obtain ⟨key,stamp,cancelled,day,kind,ins,other,cur,target,fq,amt,fee,price,ratio,share,picks,os,choice⟩:=f
 unfold FactP.cells at *
 dsimp only at *
 cases z
 all_goals
  go_enter Tryz.func54,Tryz.ntmps54
  go_wp2_with fail
  refine (HL.out _).mono ?_
  rintro e w1 ⟨rfl,rfl⟩
  go_wp2
  go_ret
  exact ⟨rfl,below_alloc w _⟩
theorem rfield_3 (f:FactP) (pa oa:Option Addr) (pc oc:Nat) (w:World) (ht:f.tight) :
  Calls Tryz.prog 54 #[.agg (f.cells pa pc oa oc),.int .i64 3] w fun e w'=>e = .returned (.int .i64 (nameErr f.target))∧Below w.heap.size w w':=by
 have HL:=Lib.hid (fun W=>show Calls Tryz.prog 73 #[.string ⟨f.target.toArray⟩] W (fun e w'=>e = .returned (.int .i64 (nameErr f.target))∧w'=W) from RName13_any f.target W ht.small.target)
 obtain ⟨z,hz⟩:∃ z,z=nameErr f.target:=⟨_,rfl⟩
 rw [← hz] at HL ⊢
 clear hz
 obtain ⟨key,stamp,cancelled,day,kind,ins,other,cur,target,fq,amt,fee,price,ratio,share,picks,os,choice⟩:=f
 unfold FactP.cells at *
 dsimp only at *
 go_enter Tryz.func54,Tryz.ntmps54
 go_wp2_with fail
 refine (HL.out _).mono ?_
 rintro e w1 ⟨rfl,rfl⟩
 go_wp2
 go_ret
 exact ⟨rfl,below_alloc w _⟩
theorem rfield_4 (f:FactP) (pa oa:Option Addr) (pc oc:Nat) (w:World) (ht:f.tight) :
  Calls Tryz.prog 54 #[.agg (f.cells pa pc oa oc),.int .i64 4] w fun e w'=>e = .returned (.int .i64 (lim true false f.q []))∧Below w.heap.size w w':=by
 have HL:Hid (∀ W,Calls Tryz.prog 76 #[.string ⟨f.q.toArray⟩,.string ⟨([49]:List UInt8).toArray⟩] W fun e w'=>e = .returned (.int .i64 (lim true false f.q []))∧w'=W):=fun W=>RWhole_any f.q true W ht.q
 obtain ⟨z,hz⟩:∃ z,z=lim true false f.q []:=⟨_,rfl⟩
 rw [← hz] at HL ⊢
 clear hz
 obtain ⟨key,stamp,cancelled,day,kind,ins,other,cur,target,fq,amt,fee,price,ratio,share,picks,os,choice⟩:=f
 unfold FactP.cells at *
 dsimp only at *
 go_enter Tryz.func54,Tryz.ntmps54
 go_wp2_with fail
 refine (HL.out _).mono ?_
 rintro e w1 ⟨rfl,rfl⟩
 go_wp2
 go_ret
 exact ⟨rfl,below_alloc w _⟩
theorem rfield_5 (f:FactP) (pa oa:Option Addr) (pc oc:Nat) (w:World) (ht:f.tight) :
  Calls Tryz.prog 54 #[.agg (f.cells pa pc oa oc),.int .i64 5] w fun e w'=>e = .returned (.int .i64 (lim (decide (¬ (f.kind=3∨f.kind=4))) false f.amt []))∧Below w.heap.size w w':=by
 have HL:=Lib.hid (fun W=>RWhole_any f.amt (decide (¬ (f.kind=3∨f.kind=4))) W ht.amt)
 have HM:=Lib.hid (fun W=>RLeast5_any f.kind W)
 generalize (if decide (¬ (f.kind=3∨f.kind=4))=true then ([49]:List UInt8) else [])=le at *
 obtain ⟨z,hz⟩:∃ z,z=lim (decide (¬ (f.kind=3∨f.kind=4))) false f.amt []:=⟨_,rfl⟩
 rw [← hz] at HL ⊢
 clear hz
 obtain ⟨key,stamp,cancelled,day,kind,ins,other,cur,target,fq,amt,fee,price,ratio,share,picks,os,choice⟩:=f
 unfold FactP.cells at *
 dsimp only at *
 have HX:=Lib.hid (Box.new0 w #[.string ⟨key.toArray⟩,.int .i64 stamp,.bool cancelled,.int .i64 day,.int .i64 kind,.string ⟨ins.toArray⟩,.string ⟨other.toArray⟩,.string ⟨cur.toArray⟩,.string ⟨target.toArray⟩,.string ⟨fq.toArray⟩,.string ⟨amt.toArray⟩,.string ⟨fee.toArray⟩,.string ⟨price.n.toArray⟩,.string ⟨price.d.toArray⟩,.string ⟨ratio.n.toArray⟩,.string ⟨ratio.d.toArray⟩,.string ⟨share.n.toArray⟩,.string ⟨share.d.toArray⟩,.slice pa picks.length pc,.slice oa os.length oc,.int .i64 choice] 36)
 have k4:=HX.out.cell 4
 have k10:=HX.out.cell 10
 go_enter Tryz.func54,Tryz.ntmps54
 go_wp2_with fail
 go_quiet (first | (go_at_call 77;refine Calls.quiet_of_same (HM.out _)) | (go_at_call 76;refine Calls.quiet_of_same (HL.out _)))
 go_wp2
 go_ret
 exact ⟨rfl,below_drewN (below_alloc w _) _⟩
theorem rfield_6 (f:FactP) (pa oa:Option Addr) (pc oc:Nat) (w:World) (ht:f.tight) :
  Calls Tryz.prog 54 #[.agg (f.cells pa pc oa oc),.int .i64 6] w fun e w'=>e = .returned (.int .i64 (lim false false f.fee []))∧Below w.heap.size w w':=by
 have HL:Hid (∀ W,Calls Tryz.prog 76 #[.string ⟨f.fee.toArray⟩,.string ⟨#[]⟩] W fun e w'=>e = .returned (.int .i64 (lim false false f.fee []))∧w'=W):=fun W=>RWhole_any f.fee false W ht.fee
 obtain ⟨z,hz⟩:∃ z,z=lim false false f.fee []:=⟨_,rfl⟩
 rw [← hz] at HL ⊢
 clear hz
 obtain ⟨key,stamp,cancelled,day,kind,ins,other,cur,target,fq,amt,fee,price,ratio,share,picks,os,choice⟩:=f
 unfold FactP.cells at *
 dsimp only at *
 go_enter Tryz.func54,Tryz.ntmps54
 go_wp2_with fail
 refine (HL.out _).mono ?_
 rintro e w1 ⟨rfl,rfl⟩
 go_wp2
 go_ret
 exact ⟨rfl,below_alloc w _⟩
theorem long13_le {f:FracP} (h:long13 f=false):f.n.length≤13∧f.d.length≤13:=by
 unfold long13 at h
 simp at h
 exact ⟨by omega,by omega⟩
theorem rfield_7 (f:FactP) (pa oa:Option Addr) (pc oc:Nat) (w:World) (ht:f.tight) :
  Calls Tryz.prog 54 #[.agg (f.cells pa pc oa oc),.int .i64 7] w fun e w'=>e = .returned (.int .i64 (lim (decide (f.kind=5∨f.kind=13)) false f.price.n f.price.d))∧Below w.heap.size w w':=by
 have HL:=Lib.hid (fun W=>RNumber13_any f.price.n f.price.d (decide (f.kind=5∨f.kind=13)) W (long13_le ht.price).1 (long13_le ht.price).2)
 obtain ⟨z,hz⟩:∃ z,z=lim (decide (f.kind=5∨f.kind=13)) false f.price.n f.price.d:=⟨_,rfl⟩
 rw [← hz] at HL ⊢
 clear hz
 obtain ⟨key,stamp,cancelled,day,kind,ins,other,cur,target,fq,amt,fee,price,ratio,share,picks,os,choice⟩:=f
 unfold FactP.cells at *
 dsimp only at *
 rcases (show kind=5∨kind=13∨(kind ≠ 5∧kind ≠ 13) by omega) with rfl | rfl | ⟨h1,h2⟩
 ·have e:decide ((5:Int)=5∨(5:Int)=13)=true:=rfl
  rw [e] at HL
  clear e
  go_enter Tryz.func54,Tryz.ntmps54
  go_wp2_with fail
  refine (HL.out _).mono ?_
  rintro e w1 ⟨rfl,hb⟩
  have HB:=Lib.hid (below_up (below_alloc w _) hb)
  clear hb
  go_wp2
  go_ret
  exact ⟨rfl,HB.out⟩
 ·have e:decide ((13:Int)=5∨(13:Int)=13)=true:=rfl
  rw [e] at HL
  clear e
  go_enter Tryz.func54,Tryz.ntmps54
  go_wp2_with fail
  refine (HL.out _).mono ?_
  rintro e w1 ⟨rfl,hb⟩
  have HB:=Lib.hid (below_up (below_alloc w _) hb)
  clear hb
  go_wp2
  go_ret
  exact ⟨rfl,HB.out⟩
 ·have e:decide (kind=5∨kind=13)=false:=by simp [h1,h2]
  rw [e] at HL
  have e1:(kind == 5)=false:=by simpa using h1
  have e2:(kind == 13)=false:=by simpa using h2
  clear e h1 h2
  go_enter Tryz.func54,Tryz.ntmps54
  go_wp2_with fail
  refine (HL.out _).mono ?_
  rintro e w1 ⟨rfl,hb⟩
  have HB:=Lib.hid (below_up (below_alloc w _) hb)
  clear hb
  go_wp2
  go_ret
  exact ⟨rfl,HB.out⟩
theorem rfield_8 (f:FactP) (pa oa:Option Addr) (pc oc:Nat) (w:World) (ht:f.tight) :
  Calls Tryz.prog 54 #[.agg (f.cells pa pc oa oc),.int .i64 8] w fun e w'=>e = .returned (.int .i64 (lim true false f.ratio.n f.ratio.d))∧Below w.heap.size w w':=by
 have HL:=Lib.hid (fun W=>RNumber13_any f.ratio.n f.ratio.d true W (long13_le ht.ratio).1 (long13_le ht.ratio).2)
 obtain ⟨z,hz⟩:∃ z,z=lim true false f.ratio.n f.ratio.d:=⟨_,rfl⟩
 rw [← hz] at HL ⊢
 clear hz
 obtain ⟨key,stamp,cancelled,day,kind,ins,other,cur,target,fq,amt,fee,price,ratio,share,picks,os,choice⟩:=f
 unfold FactP.cells at *
 dsimp only at *
 go_enter Tryz.func54,Tryz.ntmps54
 go_wp2_with fail
 refine (HL.out _).mono ?_
 rintro e w1 ⟨rfl,hb⟩
 have HB:=Lib.hid (below_up (below_alloc w _) hb)
 clear hb
 go_wp2
 go_ret
 exact ⟨rfl,HB.out⟩
theorem rfield_10 (f:FactP) (pa oa:Option Addr) (pc oc:Nat) (w:World) (ht:f.tight) (hb0:f.Behind w pa oa) :
  Calls Tryz.prog 54 #[.agg (f.cells pa pc oa oc),.int .i64 10] w fun e w'=>e = .returned (.int .i64 (pickErr f))∧Below w.heap.size w w':=by
 have HL:=Lib.hid (fun W (hbw:Below w.heap.size w W)=>RPicks_any f pa oa pc oc W (hb0.below hbw) ht.q (fun p hp=>⟨(ht.small.pick p hp).1,ht.pick p hp⟩) ht.small.picks)
 obtain ⟨z,hz⟩:∃ z,z=pickErr f:=⟨_,rfl⟩
 rw [← hz] at HL ⊢
 clear hz
 have HFB:=Lib.hid (Box.new0 w (f.cells pa pc oa oc) 36)
 have hsz:Hid ((Tryz.prog.info? 36).map (·.size)=some (f.cells pa pc oa oc).size):=factSize f pa oa pc oc
 generalize f.cells pa pc oa oc=cs at *
 go_enter Tryz.func54,Tryz.ntmps54
 go_wp2_with (refine wpList_load_row rfl 36 _ rfl w.heap.size rfl 36 cs (0,0) _ HFB.out.2 Tryz.underlying36 rfl hsz.out ?_)
 refine (HL.out _ (below_alloc w _)).mono ?_
 rintro e w1 ⟨rfl,hb⟩
 have HB:=Lib.hid (below_up (below_alloc w _) hb)
 clear hb
 go_wp2
 go_ret
 exact ⟨rfl,HB.out⟩
theorem rfield_11 (f:FactP) (pa oa:Option Addr) (pc oc:Nat) (w:World) (ht:f.tight) (hb0:f.Behind w pa oa) (hins:f.ins ≠ []) :
  Calls Tryz.prog 54 #[.agg (f.cells pa pc oa oc),.int .i64 11] w fun e w'=>e = .returned (.int .i64 (optErr f))∧Below w.heap.size w w':=by
 have HL:=Lib.hid (fun W (hbw:Below w.heap.size w W)=>ROptions_any f pa oa pc oc W (hb0.below hbw) hins (fun o ho=>⟨(ht.small.option o ho).1,(long13_le (ht.option o ho).1).1,(long13_le (ht.option o ho).1).2,(long13_le (ht.option o ho).2.1).1,(long13_le (ht.option o ho).2.1).2,(long13_le (ht.option o ho).2.2).1,(long13_le (ht.option o ho).2.2).2⟩) ht.small.options)
 obtain ⟨z,hz⟩:∃ z,z=optErr f:=⟨_,rfl⟩
 rw [← hz] at HL ⊢
 clear hz
 have HFB:=Lib.hid (Box.new0 w (f.cells pa pc oa oc) 36)
 have hsz:Hid ((Tryz.prog.info? 36).map (·.size)=some (f.cells pa pc oa oc).size):=factSize f pa oa pc oc
 generalize f.cells pa pc oa oc=cs at *
 go_enter Tryz.func54,Tryz.ntmps54
 go_wp2_with (refine wpList_load_row rfl 36 _ rfl w.heap.size rfl 36 cs (0,0) _ HFB.out.2 Tryz.underlying36 rfl hsz.out ?_)
 refine (HL.out _ (below_alloc w _)).mono ?_
 rintro e w1 ⟨rfl,hb⟩
 have HB:=Lib.hid (below_up (below_alloc w _) hb)
 clear hb
 go_wp2
 go_ret
 exact ⟨rfl,HB.out⟩
theorem rfield_12 (f:FactP) (pa oa:Option Addr) (pc oc:Nat) (w:World) :
  Calls Tryz.prog 54 #[.agg (f.cells pa pc oa oc),.int .i64 12] w fun e w'=>e = .returned (.int .i64 (if f.choice < 0 then 2 else 0))∧Below w.heap.size w w':=by
 obtain ⟨key,stamp,cancelled,day,kind,ins,other,cur,target,fq,amt,fee,price,ratio,share,picks,os,choice⟩:=f
 unfold FactP.cells
 dsimp only
 by_cases h:choice < 0
 ·rw [if_pos h]
  go_enter Tryz.func54,Tryz.ntmps54
  go_wp2
  go_ret
  exact ⟨rfl,below_alloc w _⟩
 ·rw [if_neg h]
  go_enter Tryz.func54,Tryz.ntmps54
  go_wp2
  go_ret
  exact ⟨rfl,below_alloc w _⟩
end
section
open Go Go.RowKit Num
theorem lim_share {n d:List UInt8} (hn:n.length≤13) (hd:d.length≤13):(lim false false n d ≠ 0→lim false true n d=lim false false n d)∧(lim false false n d=0→lim false true n d=if 0 < fcmp n d [49] [] then 2 else 0):=by
 rw [lim_frac hn hd,lim_over hn hd]
 cases fok n d with
 | false=>simp
 | true =>
  by_cases h:fcmp n d [] [] < 0
  ·simp [h]
  ·simp [h]
theorem rfield_9 (f:FactP) (pa oa:Option Addr) (pc oc:Nat) (w:World) (ht:f.tight) :
  Calls Tryz.prog 54 #[.agg (f.cells pa pc oa oc),.int .i64 9] w fun e w'=>e = .returned (.int .i64 (lim false true f.share.n f.share.d))∧Below w.heap.size w w':=by
 obtain ⟨l1,l2⟩:=long13_le ht.share
 have HN:=Lib.hid (fun W=>RNumber13_any f.share.n f.share.d false W l1 l2)
 have HR:=Lib.hid (fun W=>RRatio11_any W)
 have HC:=Lib.hid (fun W=>RFCompare_any f.share.n f.share.d [49] [] W (by omega) (by omega) (by simp) (by simp))
 obtain ⟨e1,e2⟩:=lim_share l1 l2
 obtain ⟨key,stamp,cancelled,day,kind,ins,other,cur,target,fq,amt,fee,price,ratio,⟨n,d⟩,picks,os,choice⟩:=f
 dsimp only at *
 obtain ⟨res,hres⟩:∃ res,res=lim false true n d:=⟨_,rfl⟩
 rw [← hres] at e1 e2 ⊢
 clear hres ht l1 l2
 generalize lim false false n d=z at *
 generalize fcmp n d [49] []=s at *
 unfold FactP.cells
 dsimp only
 have HX:=Lib.hid (Box.new0 w #[.string ⟨key.toArray⟩,.int .i64 stamp,.bool cancelled,.int .i64 day,.int .i64 kind,.string ⟨ins.toArray⟩,.string ⟨other.toArray⟩,.string ⟨cur.toArray⟩,.string ⟨target.toArray⟩,.string ⟨fq.toArray⟩,.string ⟨amt.toArray⟩,.string ⟨fee.toArray⟩,.string ⟨price.n.toArray⟩,.string ⟨price.d.toArray⟩,.string ⟨ratio.n.toArray⟩,.string ⟨ratio.d.toArray⟩,.string ⟨n.toArray⟩,.string ⟨d.toArray⟩,.slice pa picks.length pc,.slice oa os.length oc,.int .i64 choice] 36)
 by_cases hz:z=0
 ·have hr:=Lib.hid (e2 hz)
  clear e1 e2
  subst hz
  go_enter Tryz.func54,Tryz.ntmps54
  go_wp2_with fail
  refine (HN.out _).mono ?_
  rintro e w1 ⟨rfl,hb⟩
  have HX1:=Lib.hid (HX.out.below hb)
  have HB1:=Lib.hid (below_up (below_alloc w _) hb)
  have k16:=HX1.out.cell 16
  have k17:=HX1.out.cell 17
  have HR2:Hid (∀ k,Calls Tryz.prog 80 #[.int .i64 1,.int .i64 1] (w1.drewN k) fun e w'=>e = .returned (.agg #[.string ⟨([49]:List UInt8).toArray⟩,.string ⟨#[]⟩])∧Below w1.heap.size w1 w'):=fun k =>
   (HR.out _).mono fun e w' ⟨h1,h2⟩=>⟨h1,(below_drewN (Below.refl _ _) k).trans h2⟩
  clear hb HX
  go_wp2_with fail
  go_region_held3 (fun W=>W.cell? ⟨w.heap.size,16,none⟩=some (.string ⟨n.toArray⟩)∧W.cell? ⟨w.heap.size,17,none⟩=some (.string ⟨d.toArray⟩)) (first | exact ⟨k16,k17⟩ | go_keep)
   (first | (go_at_call 80;refine (HR2.out 1).mono ?_;rintro e w5 ⟨rfl,hb5⟩;have HX5:=Lib.hid (HX1.out.below hb5);have k16:=HX5.out.cell 16;have k17:=HX5.out.cell 17;have HB5:=Lib.hid (below_up HB1.out hb5);clear hb5) | (go_at_call 79;refine (HC.out _).mono ?_;rintro e w6 ⟨rfl,hb6⟩;have k16:=(HX5.out.below hb6).cell 16;have k17:=(HX5.out.below hb6).cell 17;have HB6:=Lib.hid (below_up HB5.out hb6);clear hb6))
  by_cases hs:0 < s
  ·have hr2:Hid (res=2):=by have h:=hr.out;rw [if_pos hs] at h;exact h
   go_wp2
   go_ret
   exact ⟨by rw [hr2.out];rfl,HB6.out⟩
  ·have hr2:Hid (res=0):=by have h:=hr.out;rw [if_neg hs] at h;exact h
   go_wp2
   go_ret
   exact ⟨by rw [hr2.out];rfl,HB6.out⟩
 ·have hr:=Lib.hid (e1 hz)
  have hzb:(z != 0)=true:=by simpa using hz
  clear e1 e2 hz
  go_enter Tryz.func54,Tryz.ntmps54
  go_wp2_with fail
  refine (HN.out _).mono ?_
  rintro e w1 ⟨rfl,hb⟩
  have HB1:=Lib.hid (below_up (below_alloc w _) hb)
  clear hb
  go_wp2
  go_ret
  exact ⟨by rw [hr.out];rfl,HB1.out⟩
end
section
open Go.RowKit Num
def rfieldErr (f:FactP) (i:Nat):Int :=
 if i=0 then nameErr f.ins else if i=1 then otherErr f (decide (f.kind=7∨f.kind=16)) else if i=2 then (if isCode f.cur=true then 0 else 12) else if i=3 then nameErr f.target
 else if i=4 then lim true false f.q [] else if i=5 then lim (decide (¬ (f.kind=3∨f.kind=4))) false f.amt [] else if i=6 then lim false false f.fee []
 else if i=7 then lim (decide (f.kind=5∨f.kind=13)) false f.price.n f.price.d else if i=8 then lim true false f.ratio.n f.ratio.d else if i=9 then lim false true f.share.n f.share.d
 else if i=10 then pickErr f else if i=11 then optErr f else if f.choice < 0 then 2 else 0
theorem RFieldError_any (f:FactP) (pa oa:Option Addr) (pc oc:Nat) (i:Nat) (hi:i < 13) (w:World) (ht:f.tight) (hb:f.Behind w pa oa) (hins:i=11→f.ins ≠ []) :
  Calls Tryz.prog 54 #[.agg (f.cells pa pc oa oc),.int .i64 (i:Int)] w fun e w'=>e = .returned (.int .i64 (rfieldErr f i))∧Below w.heap.size w w':=by
 match i,hi with
 | 0,_=>exact rfield_0 f pa oa pc oc w ht
 | 1,_=>exact rfield_1 f pa oa pc oc w ht
 | 2,_=>exact rfield_2 f pa oa pc oc w ht
 | 3,_=>exact rfield_3 f pa oa pc oc w ht
 | 4,_=>exact rfield_4 f pa oa pc oc w ht
 | 5,_=>exact rfield_5 f pa oa pc oc w ht
 | 6,_=>exact rfield_6 f pa oa pc oc w ht
 | 7,_=>exact rfield_7 f pa oa pc oc w ht
 | 8,_=>exact rfield_8 f pa oa pc oc w ht
 | 9,_=>exact rfield_9 f pa oa pc oc w ht
 | 10,_=>exact rfield_10 f pa oa pc oc w ht hb
 | 11,_=>exact rfield_11 f pa oa pc oc w ht hb (hins rfl)
 | 12,_=>exact rfield_12 f pa oa pc oc w
theorem rfield_law {f:FactP} {p:Int × KindP} (hf:kindList.find? (fun q=>q.1 == f.kind)=some p) {i:Nat} (hi:i < 13) (hc:p.2.has.getD i false=true):rfieldErr f i=fieldErr f p.2 i:=by
 rcases kind_cases f.kind with h | h | h | h | h | h | h | h | h | h | h | h | h | h | h | h | h | h | ⟨h1,h2,h3,h4,h5,h6,h7,h8,h9,h10,h11,h12,h13,h14,h15,h16,h17,h18⟩
 all_goals first
  | (
   rw [h] at hf
   have hf2:some _=some p:=hf
   injection hf2 with hf2
   subst hf2
   match i,hi with
   | 0,_=>first | (exfalso;revert hc;decide) | (unfold rfieldErr fieldErr FactP.num;first | (simp;done) | simp [h])
   | 1,_=>first | (exfalso;revert hc;decide) | (unfold rfieldErr fieldErr FactP.num;first | (simp;done) | simp [h])
   | 2,_=>first | (exfalso;revert hc;decide) | (unfold rfieldErr fieldErr FactP.num;first | (simp;done) | simp [h])
   | 3,_=>first | (exfalso;revert hc;decide) | (unfold rfieldErr fieldErr FactP.num;first | (simp;done) | simp [h])
   | 4,_=>first | (exfalso;revert hc;decide) | (unfold rfieldErr fieldErr FactP.num;first | (simp;done) | simp [h])
   | 5,_=>first | (exfalso;revert hc;decide) | (unfold rfieldErr fieldErr FactP.num;first | (simp;done) | simp [h])
   | 6,_=>first | (exfalso;revert hc;decide) | (unfold rfieldErr fieldErr FactP.num;first | (simp;done) | simp [h])
   | 7,_=>first | (exfalso;revert hc;decide) | (unfold rfieldErr fieldErr FactP.num;first | (simp;done) | simp [h])
   | 8,_=>first | (exfalso;revert hc;decide) | (unfold rfieldErr fieldErr FactP.num;first | (simp;done) | simp [h])
   | 9,_=>first | (exfalso;revert hc;decide) | (unfold rfieldErr fieldErr FactP.num;first | (simp;done) | simp [h])
   | 10,_=>first | (exfalso;revert hc;decide) | (unfold rfieldErr fieldErr FactP.num;first | (simp;done) | simp [h])
   | 11,_=>first | (exfalso;revert hc;decide) | (unfold rfieldErr fieldErr FactP.num;first | (simp;done) | simp [h])
   | 12,_=>first | (exfalso;revert hc;decide) | (unfold rfieldErr fieldErr FactP.num;first | (simp;done) | simp [h]))
  | (
   exfalso
   rcases find_kind f.kind with ⟨e,_⟩ | ⟨q,e,hne,_⟩
   ·rw [e] at hf;cases hf
   ·apply hne
    unfold rword
    simp only [beq_eq_false_iff_ne,ne_eq] at *
    simp [*])
end
section
open Go Go.RowKit Num
theorem RDay_any (d:Int) (w:World):Calls Tryz.prog 51 #[.int .i64 d] w fun e w'=>e = .returned (.int .i64 (if d < -25567∨84005 < d then 13 else 0))∧w'=w:=by
 rcases (show d < -25567∨(¬ d < -25567∧84005 < d)∨(¬ d < -25567∧¬ 84005 < d) by omega) with h1 | ⟨h1,h2⟩ | ⟨h1,h2⟩
 ·rw [if_pos (.inl h1)]
  go_enter Tryz.func51,Tryz.ntmps51
  go_wp2
  go_ret
  exact ⟨rfl,rfl⟩
 ·rw [if_pos (.inr h2)]
  go_enter Tryz.func51,Tryz.ntmps51
  go_wp2
  go_ret
  exact ⟨rfl,rfl⟩
 ·rw [if_neg (by omega)]
  go_enter Tryz.func51,Tryz.ntmps51
  go_wp2
  go_ret
  exact ⟨rfl,rfl⟩
theorem fields_step (f:FactP) (k:KindP) {i:Nat} (hi:i < 13):fieldsErr f k ((List.range 13).drop i)=if fieldBad f k i ≠ 0 then fieldBad f k i else fieldsErr f k ((List.range 13).drop (i+1)):=by
 rw [List.drop_eq_getElem_cons (by simpa using hi),List.getElem_range]
 rfl
end
end Go.Proofs.YtgopbldkhlmbnaaGreatDoor
