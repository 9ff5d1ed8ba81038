/- GreatA GreatB GreatC -/
import Derived.Test.YtbcebibkpfklnaaGreatDoorJFactC
import Derived.Test.YtbcebibkpfklnaaGreatDoorJLog
set_option maxHeartbeats 16000000
set_option maxRecDepth 100000
namespace Go.Proofs.YtbcebibkpfklnaaGreatDoor
section
open Go Go.RowKit Num
theorem great_bad_0 (f:FactP) (pa oa:Option Addr) (pc oc:Nat) (w:World) (h0:decide ((24:Int) < (f.key.length:Int))=true) :
  Calls Tryz.prog 35 #[.agg (f.cells pa pc oa oc)] w fun e w'=>e = .returned (.bool true)∧Below w.heap.size w w':=by
 have KF:=Box.new0 w (f.cells pa pc oa oc) 30
 have HB:=Lib.hid (below_alloc w (.cells (f.cells pa pc oa oc) 30))
 have c0:=(KF.cell 0).trans (show _=some (.string ⟨f.key.toArray⟩) from rfl)
 have KF:=Lib.hid KF
 generalize f.cells pa pc oa oc=fc at *
 go_enter Tryz.func35,Tryz.ntmps35
 go_wp2_with fail
 go_ret
 exact ⟨rfl,HB.out⟩
theorem great_bad_3 (f:FactP) (pa oa:Option Addr) (pc oc:Nat) (w:World) (h0:decide ((24:Int) < (f.key.length:Int))=false) (h1:decide ((24:Int) < (f.ins.length:Int))=false) (h2:decide ((24:Int) < (f.other.length:Int))=false) (h3:decide ((24:Int) < (f.cur.length:Int))=true) :
  Calls Tryz.prog 35 #[.agg (f.cells pa pc oa oc)] w fun e w'=>e = .returned (.bool true)∧Below w.heap.size w w':=by
 have KF:=Box.new0 w (f.cells pa pc oa oc) 30
 have HB:=Lib.hid (below_alloc w (.cells (f.cells pa pc oa oc) 30))
 have c0:=(KF.cell 0).trans (show _=some (.string ⟨f.key.toArray⟩) from rfl)
 have c5:=(KF.cell 5).trans (show _=some (.string ⟨f.ins.toArray⟩) from rfl)
 have c6:=(KF.cell 6).trans (show _=some (.string ⟨f.other.toArray⟩) from rfl)
 have c7:=(KF.cell 7).trans (show _=some (.string ⟨f.cur.toArray⟩) from rfl)
 have KF:=Lib.hid KF
 generalize f.cells pa pc oa oc=fc at *
 go_enter Tryz.func35,Tryz.ntmps35
 go_wp2_with fail
 go_ret
 exact ⟨rfl,HB.out⟩
theorem great_bad_6 (f:FactP) (pa oa:Option Addr) (pc oc:Nat) (w:World) (h0:decide ((24:Int) < (f.key.length:Int))=false) (h1:decide ((24:Int) < (f.ins.length:Int))=false) (h2:decide ((24:Int) < (f.other.length:Int))=false) (h3:decide ((24:Int) < (f.cur.length:Int))=false) (h4:decide ((24:Int) < (f.target.length:Int))=false) (h5:decide (13 < f.q.length)=false) (h6:decide (13 < f.amt.length)=true) :
  Calls Tryz.prog 35 #[.agg (f.cells pa pc oa oc)] w fun e w'=>e = .returned (.bool true)∧Below w.heap.size w w':=by
 have KF:=Box.new0 w (f.cells pa pc oa oc) 30
 have HB:=Lib.hid (below_alloc w (.cells (f.cells pa pc oa oc) 30))
 have c0:=(KF.cell 0).trans (show _=some (.string ⟨f.key.toArray⟩) from rfl)
 have c5:=(KF.cell 5).trans (show _=some (.string ⟨f.ins.toArray⟩) from rfl)
 have c6:=(KF.cell 6).trans (show _=some (.string ⟨f.other.toArray⟩) from rfl)
 have c7:=(KF.cell 7).trans (show _=some (.string ⟨f.cur.toArray⟩) from rfl)
 have c8:=(KF.cell 8).trans (show _=some (.string ⟨f.target.toArray⟩) from rfl)
 have c9:=(KF.cell 9).trans (show _=some (.string ⟨f.q.toArray⟩) from rfl)
 have HL5:Hid (∀ W,Calls Tryz.prog 66 #[.string ⟨f.q.toArray⟩] W fun e w'=>e = .returned (.bool false)∧W=w'):=fun W=>by have h:=long01_any f.q W;rw [h5] at h;exact h
 have c10:=(KF.cell 10).trans (show _=some (.string ⟨f.amt.toArray⟩) from rfl)
 have HL6:Hid (∀ W,Calls Tryz.prog 66 #[.string ⟨f.amt.toArray⟩] W fun e w'=>e = .returned (.bool true)∧W=w'):=fun W=>by have h:=long01_any f.amt W;rw [h6] at h;exact h
 have KF:=Lib.hid KF
 generalize f.cells pa pc oa oc=fc at *
 go_enter Tryz.func35,Tryz.ntmps35
 go_wp2_with fail
 refine (HL5.out _).mono ?_
 rintro e w' ⟨rfl,rfl⟩
 go_wp2_with fail
 refine (HL6.out _).mono ?_
 rintro e w' ⟨rfl,rfl⟩
 go_wp2_with fail
 go_ret
 exact ⟨rfl,HB.out⟩
theorem great_bad_9 (f:FactP) (pa oa:Option Addr) (pc oc:Nat) (w:World) (h0:decide ((24:Int) < (f.key.length:Int))=false) (h1:decide ((24:Int) < (f.ins.length:Int))=false) (h2:decide ((24:Int) < (f.other.length:Int))=false) (h3:decide ((24:Int) < (f.cur.length:Int))=false) (h4:decide ((24:Int) < (f.target.length:Int))=false) (h5:decide (13 < f.q.length)=false) (h6:decide (13 < f.amt.length)=false) (h7:decide (13 < f.fee.length)=false) (h8:(decide (13 < f.price.n.length) || decide (13 < f.price.d.length))=false) (h9:(decide (13 < f.ratio.n.length) || decide (13 < f.ratio.d.length))=true) :
  Calls Tryz.prog 35 #[.agg (f.cells pa pc oa oc)] w fun e w'=>e = .returned (.bool true)∧Below w.heap.size w w':=by
 have KF:=Box.new0 w (f.cells pa pc oa oc) 30
 have HB:=Lib.hid (below_alloc w (.cells (f.cells pa pc oa oc) 30))
 have c0:=(KF.cell 0).trans (show _=some (.string ⟨f.key.toArray⟩) from rfl)
 have c5:=(KF.cell 5).trans (show _=some (.string ⟨f.ins.toArray⟩) from rfl)
 have c6:=(KF.cell 6).trans (show _=some (.string ⟨f.other.toArray⟩) from rfl)
 have c7:=(KF.cell 7).trans (show _=some (.string ⟨f.cur.toArray⟩) from rfl)
 have c8:=(KF.cell 8).trans (show _=some (.string ⟨f.target.toArray⟩) from rfl)
 have c9:=(KF.cell 9).trans (show _=some (.string ⟨f.q.toArray⟩) from rfl)
 have HL5:Hid (∀ W,Calls Tryz.prog 66 #[.string ⟨f.q.toArray⟩] W fun e w'=>e = .returned (.bool false)∧W=w'):=fun W=>by have h:=long01_any f.q W;rw [h5] at h;exact h
 have c10:=(KF.cell 10).trans (show _=some (.string ⟨f.amt.toArray⟩) from rfl)
 have HL6:Hid (∀ W,Calls Tryz.prog 66 #[.string ⟨f.amt.toArray⟩] W fun e w'=>e = .returned (.bool false)∧W=w'):=fun W=>by have h:=long01_any f.amt W;rw [h6] at h;exact h
 have c11:=(KF.cell 11).trans (show _=some (.string ⟨f.fee.toArray⟩) from rfl)
 have HL7:Hid (∀ W,Calls Tryz.prog 66 #[.string ⟨f.fee.toArray⟩] W fun e w'=>e = .returned (.bool false)∧W=w'):=fun W=>by have h:=long01_any f.fee W;rw [h7] at h;exact h
 have c12:=(KF.cell 12).trans (show _=some (.string ⟨f.price.n.toArray⟩) from rfl)
 have c13:=(KF.cell 13).trans (show _=some (.string ⟨f.price.d.toArray⟩) from rfl)
 have HL8:Hid (∀ W,Calls Tryz.prog 67 #[.agg #[.string ⟨f.price.n.toArray⟩,.string ⟨f.price.d.toArray⟩]] W fun e w'=>e = .returned (.bool false)∧Below W.heap.size W w'):=fun W=>by have h:=long13_any f.price W;rw [h8] at h;exact h
 have c14:=(KF.cell 14).trans (show _=some (.string ⟨f.ratio.n.toArray⟩) from rfl)
 have c15:=(KF.cell 15).trans (show _=some (.string ⟨f.ratio.d.toArray⟩) from rfl)
 have HL9:Hid (∀ W,Calls Tryz.prog 67 #[.agg #[.string ⟨f.ratio.n.toArray⟩,.string ⟨f.ratio.d.toArray⟩]] W fun e w'=>e = .returned (.bool true)∧Below W.heap.size W w'):=fun W=>by have h:=long13_any f.ratio W;rw [h9] at h;exact h
 have KF:=Lib.hid KF
 generalize f.cells pa pc oa oc=fc at *
 go_enter Tryz.func35,Tryz.ntmps35
 go_wp2_with fail
 refine (HL5.out _).mono ?_
 rintro e w' ⟨rfl,rfl⟩
 go_wp2_with fail
 refine (HL6.out _).mono ?_
 rintro e w' ⟨rfl,rfl⟩
 go_wp2_with fail
 refine (HL7.out _).mono ?_
 rintro e w' ⟨rfl,rfl⟩
 go_wp2_with fail
 refine (HL8.out _).mono ?_
 rintro e w1 ⟨rfl,hb1⟩
 have c14:=(hb1.cell (p:=⟨w.heap.size,14,none⟩) KF.out.1).trans c14
 have c15:=(hb1.cell (p:=⟨w.heap.size,15,none⟩) KF.out.1).trans c15
 have KF:=Lib.hid (KF.out.below hb1)
 have HB1:=Lib.hid (below_up HB.out hb1)
 clear hb1
 go_wp2_with fail
 refine (HL9.out _).mono ?_
 rintro e w2 ⟨rfl,hb2⟩
 have KF:=Lib.hid (KF.out.below hb2)
 have HB2:=Lib.hid (below_up HB1.out hb2)
 clear hb2
 go_wp2_with fail
 go_ret
 exact ⟨rfl,HB2.out⟩
end
section
open Go Go.RowKit Num
theorem great_bad_1 (f:FactP) (pa oa:Option Addr) (pc oc:Nat) (w:World) (h0:decide ((24:Int) < (f.key.length:Int))=false) (h1:decide ((24:Int) < (f.ins.length:Int))=true) :
  Calls Tryz.prog 35 #[.agg (f.cells pa pc oa oc)] w fun e w'=>e = .returned (.bool true)∧Below w.heap.size w w':=by
 have KF:=Box.new0 w (f.cells pa pc oa oc) 30
 have HB:=Lib.hid (below_alloc w (.cells (f.cells pa pc oa oc) 30))
 have c0:=(KF.cell 0).trans (show _=some (.string ⟨f.key.toArray⟩) from rfl)
 have c5:=(KF.cell 5).trans (show _=some (.string ⟨f.ins.toArray⟩) from rfl)
 have KF:=Lib.hid KF
 generalize f.cells pa pc oa oc=fc at *
 go_enter Tryz.func35,Tryz.ntmps35
 go_wp2_with fail
 go_ret
 exact ⟨rfl,HB.out⟩
theorem great_bad_4 (f:FactP) (pa oa:Option Addr) (pc oc:Nat) (w:World) (h0:decide ((24:Int) < (f.key.length:Int))=false) (h1:decide ((24:Int) < (f.ins.length:Int))=false) (h2:decide ((24:Int) < (f.other.length:Int))=false) (h3:decide ((24:Int) < (f.cur.length:Int))=false) (h4:decide ((24:Int) < (f.target.length:Int))=true) :
  Calls Tryz.prog 35 #[.agg (f.cells pa pc oa oc)] w fun e w'=>e = .returned (.bool true)∧Below w.heap.size w w':=by
 have KF:=Box.new0 w (f.cells pa pc oa oc) 30
 have HB:=Lib.hid (below_alloc w (.cells (f.cells pa pc oa oc) 30))
 have c0:=(KF.cell 0).trans (show _=some (.string ⟨f.key.toArray⟩) from rfl)
 have c5:=(KF.cell 5).trans (show _=some (.string ⟨f.ins.toArray⟩) from rfl)
 have c6:=(KF.cell 6).trans (show _=some (.string ⟨f.other.toArray⟩) from rfl)
 have c7:=(KF.cell 7).trans (show _=some (.string ⟨f.cur.toArray⟩) from rfl)
 have c8:=(KF.cell 8).trans (show _=some (.string ⟨f.target.toArray⟩) from rfl)
 have KF:=Lib.hid KF
 generalize f.cells pa pc oa oc=fc at *
 go_enter Tryz.func35,Tryz.ntmps35
 go_wp2_with fail
 go_ret
 exact ⟨rfl,HB.out⟩
theorem great_bad_7 (f:FactP) (pa oa:Option Addr) (pc oc:Nat) (w:World) (h0:decide ((24:Int) < (f.key.length:Int))=false) (h1:decide ((24:Int) < (f.ins.length:Int))=false) (h2:decide ((24:Int) < (f.other.length:Int))=false) (h3:decide ((24:Int) < (f.cur.length:Int))=false) (h4:decide ((24:Int) < (f.target.length:Int))=false) (h5:decide (13 < f.q.length)=false) (h6:decide (13 < f.amt.length)=false) (h7:decide (13 < f.fee.length)=true) :
  Calls Tryz.prog 35 #[.agg (f.cells pa pc oa oc)] w fun e w'=>e = .returned (.bool true)∧Below w.heap.size w w':=by
 have KF:=Box.new0 w (f.cells pa pc oa oc) 30
 have HB:=Lib.hid (below_alloc w (.cells (f.cells pa pc oa oc) 30))
 have c0:=(KF.cell 0).trans (show _=some (.string ⟨f.key.toArray⟩) from rfl)
 have c5:=(KF.cell 5).trans (show _=some (.string ⟨f.ins.toArray⟩) from rfl)
 have c6:=(KF.cell 6).trans (show _=some (.string ⟨f.other.toArray⟩) from rfl)
 have c7:=(KF.cell 7).trans (show _=some (.string ⟨f.cur.toArray⟩) from rfl)
 have c8:=(KF.cell 8).trans (show _=some (.string ⟨f.target.toArray⟩) from rfl)
 have c9:=(KF.cell 9).trans (show _=some (.string ⟨f.q.toArray⟩) from rfl)
 have HL5:Hid (∀ W,Calls Tryz.prog 66 #[.string ⟨f.q.toArray⟩] W fun e w'=>e = .returned (.bool false)∧W=w'):=fun W=>by have h:=long01_any f.q W;rw [h5] at h;exact h
 have c10:=(KF.cell 10).trans (show _=some (.string ⟨f.amt.toArray⟩) from rfl)
 have HL6:Hid (∀ W,Calls Tryz.prog 66 #[.string ⟨f.amt.toArray⟩] W fun e w'=>e = .returned (.bool false)∧W=w'):=fun W=>by have h:=long01_any f.amt W;rw [h6] at h;exact h
 have c11:=(KF.cell 11).trans (show _=some (.string ⟨f.fee.toArray⟩) from rfl)
 have HL7:Hid (∀ W,Calls Tryz.prog 66 #[.string ⟨f.fee.toArray⟩] W fun e w'=>e = .returned (.bool true)∧W=w'):=fun W=>by have h:=long01_any f.fee W;rw [h7] at h;exact h
 have KF:=Lib.hid KF
 generalize f.cells pa pc oa oc=fc at *
 go_enter Tryz.func35,Tryz.ntmps35
 go_wp2_with fail
 refine (HL5.out _).mono ?_
 rintro e w' ⟨rfl,rfl⟩
 go_wp2_with fail
 refine (HL6.out _).mono ?_
 rintro e w' ⟨rfl,rfl⟩
 go_wp2_with fail
 refine (HL7.out _).mono ?_
 rintro e w' ⟨rfl,rfl⟩
 go_wp2_with fail
 go_ret
 exact ⟨rfl,HB.out⟩
theorem great_bad_10 (f:FactP) (pa oa:Option Addr) (pc oc:Nat) (w:World) (h0:decide ((24:Int) < (f.key.length:Int))=false) (h1:decide ((24:Int) < (f.ins.length:Int))=false) (h2:decide ((24:Int) < (f.other.length:Int))=false) (h3:decide ((24:Int) < (f.cur.length:Int))=false) (h4:decide ((24:Int) < (f.target.length:Int))=false) (h5:decide (13 < f.q.length)=false) (h6:decide (13 < f.amt.length)=false) (h7:decide (13 < f.fee.length)=false) (h8:(decide (13 < f.price.n.length) || decide (13 < f.price.d.length))=false) (h9:(decide (13 < f.ratio.n.length) || decide (13 < f.ratio.d.length))=false) (h10:(decide (13 < f.share.n.length) || decide (13 < f.share.d.length))=true) :
  Calls Tryz.prog 35 #[.agg (f.cells pa pc oa oc)] w fun e w'=>e = .returned (.bool true)∧Below w.heap.size w w':=by
 have KF:=Box.new0 w (f.cells pa pc oa oc) 30
 have HB:=Lib.hid (below_alloc w (.cells (f.cells pa pc oa oc) 30))
 have c0:=(KF.cell 0).trans (show _=some (.string ⟨f.key.toArray⟩) from rfl)
 have c5:=(KF.cell 5).trans (show _=some (.string ⟨f.ins.toArray⟩) from rfl)
 have c6:=(KF.cell 6).trans (show _=some (.string ⟨f.other.toArray⟩) from rfl)
 have c7:=(KF.cell 7).trans (show _=some (.string ⟨f.cur.toArray⟩) from rfl)
 have c8:=(KF.cell 8).trans (show _=some (.string ⟨f.target.toArray⟩) from rfl)
 have c9:=(KF.cell 9).trans (show _=some (.string ⟨f.q.toArray⟩) from rfl)
 have HL5:Hid (∀ W,Calls Tryz.prog 66 #[.string ⟨f.q.toArray⟩] W fun e w'=>e = .returned (.bool false)∧W=w'):=fun W=>by have h:=long01_any f.q W;rw [h5] at h;exact h
 have c10:=(KF.cell 10).trans (show _=some (.string ⟨f.amt.toArray⟩) from rfl)
 have HL6:Hid (∀ W,Calls Tryz.prog 66 #[.string ⟨f.amt.toArray⟩] W fun e w'=>e = .returned (.bool false)∧W=w'):=fun W=>by have h:=long01_any f.amt W;rw [h6] at h;exact h
 have c11:=(KF.cell 11).trans (show _=some (.string ⟨f.fee.toArray⟩) from rfl)
 have HL7:Hid (∀ W,Calls Tryz.prog 66 #[.string ⟨f.fee.toArray⟩] W fun e w'=>e = .returned (.bool false)∧W=w'):=fun W=>by have h:=long01_any f.fee W;rw [h7] at h;exact h
 have c12:=(KF.cell 12).trans (show _=some (.string ⟨f.price.n.toArray⟩) from rfl)
 have c13:=(KF.cell 13).trans (show _=some (.string ⟨f.price.d.toArray⟩) from rfl)
 have HL8:Hid (∀ W,Calls Tryz.prog 67 #[.agg #[.string ⟨f.price.n.toArray⟩,.string ⟨f.price.d.toArray⟩]] W fun e w'=>e = .returned (.bool false)∧Below W.heap.size W w'):=fun W=>by have h:=long13_any f.price W;rw [h8] at h;exact h
 have c14:=(KF.cell 14).trans (show _=some (.string ⟨f.ratio.n.toArray⟩) from rfl)
 have c15:=(KF.cell 15).trans (show _=some (.string ⟨f.ratio.d.toArray⟩) from rfl)
 have HL9:Hid (∀ W,Calls Tryz.prog 67 #[.agg #[.string ⟨f.ratio.n.toArray⟩,.string ⟨f.ratio.d.toArray⟩]] W fun e w'=>e = .returned (.bool false)∧Below W.heap.size W w'):=fun W=>by have h:=long13_any f.ratio W;rw [h9] at h;exact h
 have c16:=(KF.cell 16).trans (show _=some (.string ⟨f.share.n.toArray⟩) from rfl)
 have c17:=(KF.cell 17).trans (show _=some (.string ⟨f.share.d.toArray⟩) from rfl)
 have HL10:Hid (∀ W,Calls Tryz.prog 67 #[.agg #[.string ⟨f.share.n.toArray⟩,.string ⟨f.share.d.toArray⟩]] W fun e w'=>e = .returned (.bool true)∧Below W.heap.size W w'):=fun W=>by have h:=long13_any f.share W;rw [h10] at h;exact h
 have KF:=Lib.hid KF
 generalize f.cells pa pc oa oc=fc at *
 go_enter Tryz.func35,Tryz.ntmps35
 go_wp2_with fail
 refine (HL5.out _).mono ?_
 rintro e w' ⟨rfl,rfl⟩
 go_wp2_with fail
 refine (HL6.out _).mono ?_
 rintro e w' ⟨rfl,rfl⟩
 go_wp2_with fail
 refine (HL7.out _).mono ?_
 rintro e w' ⟨rfl,rfl⟩
 go_wp2_with fail
 refine (HL8.out _).mono ?_
 rintro e w1 ⟨rfl,hb1⟩
 have c14:=(hb1.cell (p:=⟨w.heap.size,14,none⟩) KF.out.1).trans c14
 have c15:=(hb1.cell (p:=⟨w.heap.size,15,none⟩) KF.out.1).trans c15
 have c16:=(hb1.cell (p:=⟨w.heap.size,16,none⟩) KF.out.1).trans c16
 have c17:=(hb1.cell (p:=⟨w.heap.size,17,none⟩) KF.out.1).trans c17
 have KF:=Lib.hid (KF.out.below hb1)
 have HB1:=Lib.hid (below_up HB.out hb1)
 clear hb1
 go_wp2_with fail
 refine (HL9.out _).mono ?_
 rintro e w2 ⟨rfl,hb2⟩
 have c16:=(hb2.cell (p:=⟨w.heap.size,16,none⟩) KF.out.1).trans c16
 have c17:=(hb2.cell (p:=⟨w.heap.size,17,none⟩) KF.out.1).trans c17
 have KF:=Lib.hid (KF.out.below hb2)
 have HB2:=Lib.hid (below_up HB1.out hb2)
 clear hb2
 go_wp2_with fail
 refine (HL10.out _).mono ?_
 rintro e w3 ⟨rfl,hb3⟩
 have KF:=Lib.hid (KF.out.below hb3)
 have HB3:=Lib.hid (below_up HB2.out hb3)
 clear hb3
 go_wp2_with fail
 go_ret
 exact ⟨rfl,HB3.out⟩
end
section
open Go Go.RowKit Num
theorem great_bad_2 (f:FactP) (pa oa:Option Addr) (pc oc:Nat) (w:World) (h0:decide ((24:Int) < (f.key.length:Int))=false) (h1:decide ((24:Int) < (f.ins.length:Int))=false) (h2:decide ((24:Int) < (f.other.length:Int))=true) :
  Calls Tryz.prog 35 #[.agg (f.cells pa pc oa oc)] w fun e w'=>e = .returned (.bool true)∧Below w.heap.size w w':=by
 have KF:=Box.new0 w (f.cells pa pc oa oc) 30
 have HB:=Lib.hid (below_alloc w (.cells (f.cells pa pc oa oc) 30))
 have c0:=(KF.cell 0).trans (show _=some (.string ⟨f.key.toArray⟩) from rfl)
 have c5:=(KF.cell 5).trans (show _=some (.string ⟨f.ins.toArray⟩) from rfl)
 have c6:=(KF.cell 6).trans (show _=some (.string ⟨f.other.toArray⟩) from rfl)
 have KF:=Lib.hid KF
 generalize f.cells pa pc oa oc=fc at *
 go_enter Tryz.func35,Tryz.ntmps35
 go_wp2_with fail
 go_ret
 exact ⟨rfl,HB.out⟩
theorem great_bad_5 (f:FactP) (pa oa:Option Addr) (pc oc:Nat) (w:World) (h0:decide ((24:Int) < (f.key.length:Int))=false) (h1:decide ((24:Int) < (f.ins.length:Int))=false) (h2:decide ((24:Int) < (f.other.length:Int))=false) (h3:decide ((24:Int) < (f.cur.length:Int))=false) (h4:decide ((24:Int) < (f.target.length:Int))=false) (h5:decide (13 < f.q.length)=true) :
  Calls Tryz.prog 35 #[.agg (f.cells pa pc oa oc)] w fun e w'=>e = .returned (.bool true)∧Below w.heap.size w w':=by
 have KF:=Box.new0 w (f.cells pa pc oa oc) 30
 have HB:=Lib.hid (below_alloc w (.cells (f.cells pa pc oa oc) 30))
 have c0:=(KF.cell 0).trans (show _=some (.string ⟨f.key.toArray⟩) from rfl)
 have c5:=(KF.cell 5).trans (show _=some (.string ⟨f.ins.toArray⟩) from rfl)
 have c6:=(KF.cell 6).trans (show _=some (.string ⟨f.other.toArray⟩) from rfl)
 have c7:=(KF.cell 7).trans (show _=some (.string ⟨f.cur.toArray⟩) from rfl)
 have c8:=(KF.cell 8).trans (show _=some (.string ⟨f.target.toArray⟩) from rfl)
 have c9:=(KF.cell 9).trans (show _=some (.string ⟨f.q.toArray⟩) from rfl)
 have HL5:Hid (∀ W,Calls Tryz.prog 66 #[.string ⟨f.q.toArray⟩] W fun e w'=>e = .returned (.bool true)∧W=w'):=fun W=>by have h:=long01_any f.q W;rw [h5] at h;exact h
 have KF:=Lib.hid KF
 generalize f.cells pa pc oa oc=fc at *
 go_enter Tryz.func35,Tryz.ntmps35
 go_wp2_with fail
 refine (HL5.out _).mono ?_
 rintro e w' ⟨rfl,rfl⟩
 go_wp2_with fail
 go_ret
 exact ⟨rfl,HB.out⟩
theorem great_bad_8 (f:FactP) (pa oa:Option Addr) (pc oc:Nat) (w:World) (h0:decide ((24:Int) < (f.key.length:Int))=false) (h1:decide ((24:Int) < (f.ins.length:Int))=false) (h2:decide ((24:Int) < (f.other.length:Int))=false) (h3:decide ((24:Int) < (f.cur.length:Int))=false) (h4:decide ((24:Int) < (f.target.length:Int))=false) (h5:decide (13 < f.q.length)=false) (h6:decide (13 < f.amt.length)=false) (h7:decide (13 < f.fee.length)=false) (h8:(decide (13 < f.price.n.length) || decide (13 < f.price.d.length))=true) :
  Calls Tryz.prog 35 #[.agg (f.cells pa pc oa oc)] w fun e w'=>e = .returned (.bool true)∧Below w.heap.size w w':=by
 have KF:=Box.new0 w (f.cells pa pc oa oc) 30
 have HB:=Lib.hid (below_alloc w (.cells (f.cells pa pc oa oc) 30))
 have c0:=(KF.cell 0).trans (show _=some (.string ⟨f.key.toArray⟩) from rfl)
 have c5:=(KF.cell 5).trans (show _=some (.string ⟨f.ins.toArray⟩) from rfl)
 have c6:=(KF.cell 6).trans (show _=some (.string ⟨f.other.toArray⟩) from rfl)
 have c7:=(KF.cell 7).trans (show _=some (.string ⟨f.cur.toArray⟩) from rfl)
 have c8:=(KF.cell 8).trans (show _=some (.string ⟨f.target.toArray⟩) from rfl)
 have c9:=(KF.cell 9).trans (show _=some (.string ⟨f.q.toArray⟩) from rfl)
 have HL5:Hid (∀ W,Calls Tryz.prog 66 #[.string ⟨f.q.toArray⟩] W fun e w'=>e = .returned (.bool false)∧W=w'):=fun W=>by have h:=long01_any f.q W;rw [h5] at h;exact h
 have c10:=(KF.cell 10).trans (show _=some (.string ⟨f.amt.toArray⟩) from rfl)
 have HL6:Hid (∀ W,Calls Tryz.prog 66 #[.string ⟨f.amt.toArray⟩] W fun e w'=>e = .returned (.bool false)∧W=w'):=fun W=>by have h:=long01_any f.amt W;rw [h6] at h;exact h
 have c11:=(KF.cell 11).trans (show _=some (.string ⟨f.fee.toArray⟩) from rfl)
 have HL7:Hid (∀ W,Calls Tryz.prog 66 #[.string ⟨f.fee.toArray⟩] W fun e w'=>e = .returned (.bool false)∧W=w'):=fun W=>by have h:=long01_any f.fee W;rw [h7] at h;exact h
 have c12:=(KF.cell 12).trans (show _=some (.string ⟨f.price.n.toArray⟩) from rfl)
 have c13:=(KF.cell 13).trans (show _=some (.string ⟨f.price.d.toArray⟩) from rfl)
 have HL8:Hid (∀ W,Calls Tryz.prog 67 #[.agg #[.string ⟨f.price.n.toArray⟩,.string ⟨f.price.d.toArray⟩]] W fun e w'=>e = .returned (.bool true)∧Below W.heap.size W w'):=fun W=>by have h:=long13_any f.price W;rw [h8] at h;exact h
 have KF:=Lib.hid KF
 generalize f.cells pa pc oa oc=fc at *
 go_enter Tryz.func35,Tryz.ntmps35
 go_wp2_with fail
 refine (HL5.out _).mono ?_
 rintro e w' ⟨rfl,rfl⟩
 go_wp2_with fail
 refine (HL6.out _).mono ?_
 rintro e w' ⟨rfl,rfl⟩
 go_wp2_with fail
 refine (HL7.out _).mono ?_
 rintro e w' ⟨rfl,rfl⟩
 go_wp2_with fail
 refine (HL8.out _).mono ?_
 rintro e w1 ⟨rfl,hb1⟩
 have KF:=Lib.hid (KF.out.below hb1)
 have HB1:=Lib.hid (below_up HB.out hb1)
 clear hb1
 go_wp2_with fail
 go_ret
 exact ⟨rfl,HB1.out⟩
end
end Go.Proofs.YtbcebibkpfklnaaGreatDoor
