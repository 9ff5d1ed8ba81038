/- SameE SameF -/
import Derived.Test.YtbcebibkpfklnaaGreatDoorJFactC
import Derived.Laws.Rows
set_option maxHeartbeats 16000000
set_option maxRecDepth 100000
namespace Go.Proofs.YtbcebibkpfklnaaGreatDoor
section
open Go Go.RowKit Num
theorem same_4 (f:FactP) (pa oa:Option Addr) (pc oc:Nat) (w:World) (hc:f.cancelled=true) (h0:f.day=0) (h1:f.kind=0) (h2:f.ins=[]) (h3:f.other=[]) (hm:f.cur.isEmpty=false) :
  Calls Tryz.prog 18 #[.agg (f.cells pa pc oa oc),.agg (blankCells f.key f.stamp true)] w fun e w'=>e = .returned (.bool false)∧Below w.heap.size w w':=by
 have KF:=((Box.new0 w (f.cells pa pc oa oc) 30).below (below_alloc _ (.cells (blankCells f.key f.stamp true) 30)))
 have KG:=Box.new0 (w.alloc (.cells (f.cells pa pc oa oc) 30)) (blankCells f.key f.stamp true) 30
 rw [World.size_alloc] at KG
 have HB:=Lib.hid (((Below.refl w.heap.size w).alloc (Nat.le_refl _) (.cells (f.cells pa pc oa oc) 30)).alloc (by simp) (.cells (blankCells f.key f.stamp true) 30))
 have c0:=(KF.cell 0).trans (show _=some (.string ⟨f.key.toArray⟩) from rfl)
 have c1:=(KF.cell 1).trans (show _=some (.int .i64 f.stamp) from rfl)
 have c2:=(KF.cell 2).trans (show _=some (.bool true) from by rw [← hc];rfl)
 have g0:=(KG.cell 0).trans (show _=some (.string ⟨f.key.toArray⟩) from rfl)
 have g1:=(KG.cell 1).trans (show _=some (.int .i64 f.stamp) from rfl)
 have g2:=(KG.cell 2).trans (show _=some (.bool true) from rfl)
 have g3:=(KG.cell 3).trans (show _=some (.int .i64 0) from rfl)
 have c3:=(KF.cell 3).trans (show _=some (.int .i64 0) from by show some (Value.int .i64 f.day)=_;rw [h0])
 have g4:=(KG.cell 4).trans (show _=some (.int .i64 0) from rfl)
 have c4:=(KF.cell 4).trans (show _=some (.int .i64 0) from by show some (Value.int .i64 f.kind)=_;rw [h1])
 have g5:=(KG.cell 5).trans (show _=some (.string ⟨#[]⟩) from rfl)
 have c5:=(KF.cell 5).trans (show _=some (.string ⟨#[]⟩) from by show some (Value.string ⟨f.ins.toArray⟩)=_;rw [h2])
 have g6:=(KG.cell 6).trans (show _=some (.string ⟨#[]⟩) from rfl)
 have c6:=(KF.cell 6).trans (show _=some (.string ⟨#[]⟩) from by show some (Value.string ⟨f.other.toArray⟩)=_;rw [h3])
 have g7:=(KG.cell 7).trans (show _=some (.string ⟨#[]⟩) from rfl)
 have c7:=(KF.cell 7).trans (show _=some (.string ⟨f.cur.toArray⟩) from rfl)
 have KF:=Lib.hid KF
 have KG:=Lib.hid KG
 clear hc h0 h1 h2 h3
 generalize f.cells pa pc oa oc=fc at *
 generalize blankCells f.key f.stamp true=gc at *
 generalize f.key=key at *
 generalize f.stamp=stamp at *
 generalize f.cur=xx at *
 go_enter Tryz.func18,Tryz.ntmps18
 go_wp2_with fail
 go_ret
 exact ⟨rfl,HB.out⟩
theorem same_9d (f:FactP) (pa oa:Option Addr) (pc oc:Nat) (w:World) (hc:f.cancelled=true) (h0:f.day=0) (h1:f.kind=0) (h2:f.ins=[]) (h3:f.other=[]) (h4:f.cur=[]) (h5:f.target=[]) (h6:f.q=[]) (h7:f.amt=[]) (h8:f.fee=[]) (x:UInt8) (xs:List UInt8) (hn:f.price.n=[]) (hm:f.price.d=x :: xs) :
  Calls Tryz.prog 18 #[.agg (f.cells pa pc oa oc),.agg (blankCells f.key f.stamp true)] w fun e w'=>e = .returned (.bool false)∧Below w.heap.size w w':=by
 have KF:=((Box.new0 w (f.cells pa pc oa oc) 30).below (below_alloc _ (.cells (blankCells f.key f.stamp true) 30)))
 have KG:=Box.new0 (w.alloc (.cells (f.cells pa pc oa oc) 30)) (blankCells f.key f.stamp true) 30
 rw [World.size_alloc] at KG
 have HB:=Lib.hid (((Below.refl w.heap.size w).alloc (Nat.le_refl _) (.cells (f.cells pa pc oa oc) 30)).alloc (by simp) (.cells (blankCells f.key f.stamp true) 30))
 have c0:=(KF.cell 0).trans (show _=some (.string ⟨f.key.toArray⟩) from rfl)
 have c1:=(KF.cell 1).trans (show _=some (.int .i64 f.stamp) from rfl)
 have c2:=(KF.cell 2).trans (show _=some (.bool true) from by rw [← hc];rfl)
 have g0:=(KG.cell 0).trans (show _=some (.string ⟨f.key.toArray⟩) from rfl)
 have g1:=(KG.cell 1).trans (show _=some (.int .i64 f.stamp) from rfl)
 have g2:=(KG.cell 2).trans (show _=some (.bool true) from rfl)
 have g3:=(KG.cell 3).trans (show _=some (.int .i64 0) from rfl)
 have c3:=(KF.cell 3).trans (show _=some (.int .i64 0) from by show some (Value.int .i64 f.day)=_;rw [h0])
 have g4:=(KG.cell 4).trans (show _=some (.int .i64 0) from rfl)
 have c4:=(KF.cell 4).trans (show _=some (.int .i64 0) from by show some (Value.int .i64 f.kind)=_;rw [h1])
 have g5:=(KG.cell 5).trans (show _=some (.string ⟨#[]⟩) from rfl)
 have c5:=(KF.cell 5).trans (show _=some (.string ⟨#[]⟩) from by show some (Value.string ⟨f.ins.toArray⟩)=_;rw [h2])
 have g6:=(KG.cell 6).trans (show _=some (.string ⟨#[]⟩) from rfl)
 have c6:=(KF.cell 6).trans (show _=some (.string ⟨#[]⟩) from by show some (Value.string ⟨f.other.toArray⟩)=_;rw [h3])
 have g7:=(KG.cell 7).trans (show _=some (.string ⟨#[]⟩) from rfl)
 have c7:=(KF.cell 7).trans (show _=some (.string ⟨#[]⟩) from by show some (Value.string ⟨f.cur.toArray⟩)=_;rw [h4])
 have g8:=(KG.cell 8).trans (show _=some (.string ⟨#[]⟩) from rfl)
 have c8:=(KF.cell 8).trans (show _=some (.string ⟨#[]⟩) from by show some (Value.string ⟨f.target.toArray⟩)=_;rw [h5])
 have g9:=(KG.cell 9).trans (show _=some (.string ⟨#[]⟩) from rfl)
 have c9:=(KF.cell 9).trans (show _=some (.string ⟨#[]⟩) from by show some (Value.string ⟨f.q.toArray⟩)=_;rw [h6])
 have g10:=(KG.cell 10).trans (show _=some (.string ⟨#[]⟩) from rfl)
 have c10:=(KF.cell 10).trans (show _=some (.string ⟨#[]⟩) from by show some (Value.string ⟨f.amt.toArray⟩)=_;rw [h7])
 have g11:=(KG.cell 11).trans (show _=some (.string ⟨#[]⟩) from rfl)
 have c11:=(KF.cell 11).trans (show _=some (.string ⟨#[]⟩) from by show some (Value.string ⟨f.fee.toArray⟩)=_;rw [h8])
 have g12:=(KG.cell 12).trans (show _=some (.string ⟨#[]⟩) from rfl)
 have g13:=(KG.cell 13).trans (show _=some (.string ⟨#[]⟩) from rfl)
 have c12:=(KF.cell 12).trans (show _=some (.string ⟨#[]⟩) from by show some (Value.string ⟨f.price.n.toArray⟩)=_;rw [hn])
 have c13:=(KF.cell 13).trans (show _=some (.string ⟨(x :: xs).toArray⟩) from by show some (Value.string ⟨f.price.d.toArray⟩)=_;rw [hm])
 have KF:=Lib.hid KF
 have KG:=Lib.hid KG
 clear hc h0 h1 h2 h3 h4 h5 h6 h7 h8 hm hn
 generalize f.cells pa pc oa oc=fc at *
 generalize blankCells f.key f.stamp true=gc at *
 generalize f.key=key at *
 generalize f.stamp=stamp at *
 go_enter Tryz.func18,Tryz.ntmps18
 go_wp2_with fail
 go_ret
 exact ⟨rfl,HB.out⟩
theorem same_13 (f:FactP) (pa oa:Option Addr) (pc oc:Nat) (w:World) (hc:f.cancelled=true) (h0:f.day=0) (h1:f.kind=0) (h2:f.ins=[]) (h3:f.other=[]) (h4:f.cur=[]) (h5:f.target=[]) (h6:f.q=[]) (h7:f.amt=[]) (h8:f.fee=[]) (h9:f.price=⟨[],[]⟩) (h10:f.ratio=⟨[],[]⟩) (h11:f.share=⟨[],[]⟩) (h12:f.picks.length=0) (hm:f.options.length ≠ 0) :
  Calls Tryz.prog 18 #[.agg (f.cells pa pc oa oc),.agg (blankCells f.key f.stamp true)] w fun e w'=>e = .returned (.bool false)∧Below w.heap.size w w':=by
 have KF:=((Box.new0 w (f.cells pa pc oa oc) 30).below (below_alloc _ (.cells (blankCells f.key f.stamp true) 30)))
 have KG:=Box.new0 (w.alloc (.cells (f.cells pa pc oa oc) 30)) (blankCells f.key f.stamp true) 30
 rw [World.size_alloc] at KG
 have HB:=Lib.hid (((Below.refl w.heap.size w).alloc (Nat.le_refl _) (.cells (f.cells pa pc oa oc) 30)).alloc (by simp) (.cells (blankCells f.key f.stamp true) 30))
 have c0:=(KF.cell 0).trans (show _=some (.string ⟨f.key.toArray⟩) from rfl)
 have c1:=(KF.cell 1).trans (show _=some (.int .i64 f.stamp) from rfl)
 have c2:=(KF.cell 2).trans (show _=some (.bool true) from by rw [← hc];rfl)
 have g0:=(KG.cell 0).trans (show _=some (.string ⟨f.key.toArray⟩) from rfl)
 have g1:=(KG.cell 1).trans (show _=some (.int .i64 f.stamp) from rfl)
 have g2:=(KG.cell 2).trans (show _=some (.bool true) from rfl)
 have g3:=(KG.cell 3).trans (show _=some (.int .i64 0) from rfl)
 have c3:=(KF.cell 3).trans (show _=some (.int .i64 0) from by show some (Value.int .i64 f.day)=_;rw [h0])
 have g4:=(KG.cell 4).trans (show _=some (.int .i64 0) from rfl)
 have c4:=(KF.cell 4).trans (show _=some (.int .i64 0) from by show some (Value.int .i64 f.kind)=_;rw [h1])
 have g5:=(KG.cell 5).trans (show _=some (.string ⟨#[]⟩) from rfl)
 have c5:=(KF.cell 5).trans (show _=some (.string ⟨#[]⟩) from by show some (Value.string ⟨f.ins.toArray⟩)=_;rw [h2])
 have g6:=(KG.cell 6).trans (show _=some (.string ⟨#[]⟩) from rfl)
 have c6:=(KF.cell 6).trans (show _=some (.string ⟨#[]⟩) from by show some (Value.string ⟨f.other.toArray⟩)=_;rw [h3])
 have g7:=(KG.cell 7).trans (show _=some (.string ⟨#[]⟩) from rfl)
 have c7:=(KF.cell 7).trans (show _=some (.string ⟨#[]⟩) from by show some (Value.string ⟨f.cur.toArray⟩)=_;rw [h4])
 have g8:=(KG.cell 8).trans (show _=some (.string ⟨#[]⟩) from rfl)
 have c8:=(KF.cell 8).trans (show _=some (.string ⟨#[]⟩) from by show some (Value.string ⟨f.target.toArray⟩)=_;rw [h5])
 have g9:=(KG.cell 9).trans (show _=some (.string ⟨#[]⟩) from rfl)
 have c9:=(KF.cell 9).trans (show _=some (.string ⟨#[]⟩) from by show some (Value.string ⟨f.q.toArray⟩)=_;rw [h6])
 have g10:=(KG.cell 10).trans (show _=some (.string ⟨#[]⟩) from rfl)
 have c10:=(KF.cell 10).trans (show _=some (.string ⟨#[]⟩) from by show some (Value.string ⟨f.amt.toArray⟩)=_;rw [h7])
 have g11:=(KG.cell 11).trans (show _=some (.string ⟨#[]⟩) from rfl)
 have c11:=(KF.cell 11).trans (show _=some (.string ⟨#[]⟩) from by show some (Value.string ⟨f.fee.toArray⟩)=_;rw [h8])
 have g12:=(KG.cell 12).trans (show _=some (.string ⟨#[]⟩) from rfl)
 have g13:=(KG.cell 13).trans (show _=some (.string ⟨#[]⟩) from rfl)
 have c12:=(KF.cell 12).trans (show _=some (.string ⟨#[]⟩) from by show some (Value.string ⟨f.price.n.toArray⟩)=_;rw [h9])
 have c13:=(KF.cell 13).trans (show _=some (.string ⟨#[]⟩) from by show some (Value.string ⟨f.price.d.toArray⟩)=_;rw [h9])
 have g14:=(KG.cell 14).trans (show _=some (.string ⟨#[]⟩) from rfl)
 have g15:=(KG.cell 15).trans (show _=some (.string ⟨#[]⟩) from rfl)
 have c14:=(KF.cell 14).trans (show _=some (.string ⟨#[]⟩) from by show some (Value.string ⟨f.ratio.n.toArray⟩)=_;rw [h10])
 have c15:=(KF.cell 15).trans (show _=some (.string ⟨#[]⟩) from by show some (Value.string ⟨f.ratio.d.toArray⟩)=_;rw [h10])
 have g16:=(KG.cell 16).trans (show _=some (.string ⟨#[]⟩) from rfl)
 have g17:=(KG.cell 17).trans (show _=some (.string ⟨#[]⟩) from rfl)
 have c16:=(KF.cell 16).trans (show _=some (.string ⟨#[]⟩) from by show some (Value.string ⟨f.share.n.toArray⟩)=_;rw [h11])
 have c17:=(KF.cell 17).trans (show _=some (.string ⟨#[]⟩) from by show some (Value.string ⟨f.share.d.toArray⟩)=_;rw [h11])
 have g18:=(KG.cell 18).trans (show _=some (.slice none 0 0) from rfl)
 have c18:=(KF.cell 18).trans (show _=some (.slice pa f.picks.length pc) from rfl)
 have HQ12:Hid (∀ W,Calls Tryz.prog 42 #[.slice pa f.picks.length pc,.slice none 0 0] W fun e w'=>e = .returned (.bool true)∧Below W.heap.size W w'):=fun W=>eqNil_picks _ _ _ true (by simp [h12]) W
 have g19:=(KG.cell 19).trans (show _=some (.slice none 0 0) from rfl)
 have c19:=(KF.cell 19).trans (show _=some (.slice oa f.options.length oc) from rfl)
 have HQ13:Hid (∀ W,Calls Tryz.prog 43 #[.slice oa f.options.length oc,.slice none 0 0] W fun e w'=>e = .returned (.bool false)∧Below W.heap.size W w'):=fun W=>eqNil_options _ _ _ false (by simp [hm]) W
 have KF:=Lib.hid KF
 have KG:=Lib.hid KG
 clear hc h0 h1 h2 h3 h4 h5 h6 h7 h8 h9 h10 h11 h12 hm
 generalize f.cells pa pc oa oc=fc at *
 generalize blankCells f.key f.stamp true=gc at *
 generalize f.key=key at *
 generalize f.stamp=stamp at *
 generalize f.picks.length=npicks at *
 generalize f.options.length=noptions at *
 go_enter Tryz.func18,Tryz.ntmps18
 go_wp2_with fail
 refine (HQ12.out _).mono ?_
 rintro e w1 ⟨rfl,hb1⟩
 have c19:=(hb1.cell (p:=⟨w.heap.size,19,none⟩) KF.out.1).trans c19
 have g19:=(hb1.cell (p:=⟨w.heap.size+1,19,none⟩) KG.out.1).trans g19
 have KF:=Lib.hid (KF.out.below hb1)
 have KG:=Lib.hid (KG.out.below hb1)
 have HB1:=Lib.hid (below_up HB.out hb1)
 clear hb1
 go_wp2_with fail
 refine (HQ13.out _).mono ?_
 rintro e w2 ⟨rfl,hb2⟩
 have KF:=Lib.hid (KF.out.below hb2)
 have KG:=Lib.hid (KG.out.below hb2)
 have HB2:=Lib.hid (below_up HB1.out hb2)
 clear hb2
 go_wp2_with fail
 go_ret
 exact ⟨rfl,HB2.out⟩
end
section
open Go Go.RowKit Num
theorem same_5 (f:FactP) (pa oa:Option Addr) (pc oc:Nat) (w:World) (hc:f.cancelled=true) (h0:f.day=0) (h1:f.kind=0) (h2:f.ins=[]) (h3:f.other=[]) (h4:f.cur=[]) (hm:f.target.isEmpty=false) :
  Calls Tryz.prog 18 #[.agg (f.cells pa pc oa oc),.agg (blankCells f.key f.stamp true)] w fun e w'=>e = .returned (.bool false)∧Below w.heap.size w w':=by
 have KF:=((Box.new0 w (f.cells pa pc oa oc) 30).below (below_alloc _ (.cells (blankCells f.key f.stamp true) 30)))
 have KG:=Box.new0 (w.alloc (.cells (f.cells pa pc oa oc) 30)) (blankCells f.key f.stamp true) 30
 rw [World.size_alloc] at KG
 have HB:=Lib.hid (((Below.refl w.heap.size w).alloc (Nat.le_refl _) (.cells (f.cells pa pc oa oc) 30)).alloc (by simp) (.cells (blankCells f.key f.stamp true) 30))
 have c0:=(KF.cell 0).trans (show _=some (.string ⟨f.key.toArray⟩) from rfl)
 have c1:=(KF.cell 1).trans (show _=some (.int .i64 f.stamp) from rfl)
 have c2:=(KF.cell 2).trans (show _=some (.bool true) from by rw [← hc];rfl)
 have g0:=(KG.cell 0).trans (show _=some (.string ⟨f.key.toArray⟩) from rfl)
 have g1:=(KG.cell 1).trans (show _=some (.int .i64 f.stamp) from rfl)
 have g2:=(KG.cell 2).trans (show _=some (.bool true) from rfl)
 have g3:=(KG.cell 3).trans (show _=some (.int .i64 0) from rfl)
 have c3:=(KF.cell 3).trans (show _=some (.int .i64 0) from by show some (Value.int .i64 f.day)=_;rw [h0])
 have g4:=(KG.cell 4).trans (show _=some (.int .i64 0) from rfl)
 have c4:=(KF.cell 4).trans (show _=some (.int .i64 0) from by show some (Value.int .i64 f.kind)=_;rw [h1])
 have g5:=(KG.cell 5).trans (show _=some (.string ⟨#[]⟩) from rfl)
 have c5:=(KF.cell 5).trans (show _=some (.string ⟨#[]⟩) from by show some (Value.string ⟨f.ins.toArray⟩)=_;rw [h2])
 have g6:=(KG.cell 6).trans (show _=some (.string ⟨#[]⟩) from rfl)
 have c6:=(KF.cell 6).trans (show _=some (.string ⟨#[]⟩) from by show some (Value.string ⟨f.other.toArray⟩)=_;rw [h3])
 have g7:=(KG.cell 7).trans (show _=some (.string ⟨#[]⟩) from rfl)
 have c7:=(KF.cell 7).trans (show _=some (.string ⟨#[]⟩) from by show some (Value.string ⟨f.cur.toArray⟩)=_;rw [h4])
 have g8:=(KG.cell 8).trans (show _=some (.string ⟨#[]⟩) from rfl)
 have c8:=(KF.cell 8).trans (show _=some (.string ⟨f.target.toArray⟩) from rfl)
 have KF:=Lib.hid KF
 have KG:=Lib.hid KG
 clear hc h0 h1 h2 h3 h4
 generalize f.cells pa pc oa oc=fc at *
 generalize blankCells f.key f.stamp true=gc at *
 generalize f.key=key at *
 generalize f.stamp=stamp at *
 generalize f.target=xx at *
 go_enter Tryz.func18,Tryz.ntmps18
 go_wp2_with fail
 go_ret
 exact ⟨rfl,HB.out⟩
theorem same_10n (f:FactP) (pa oa:Option Addr) (pc oc:Nat) (w:World) (hc:f.cancelled=true) (h0:f.day=0) (h1:f.kind=0) (h2:f.ins=[]) (h3:f.other=[]) (h4:f.cur=[]) (h5:f.target=[]) (h6:f.q=[]) (h7:f.amt=[]) (h8:f.fee=[]) (h9:f.price=⟨[],[]⟩) (x:UInt8) (xs:List UInt8) (hm:f.ratio.n=x :: xs) :
  Calls Tryz.prog 18 #[.agg (f.cells pa pc oa oc),.agg (blankCells f.key f.stamp true)] w fun e w'=>e = .returned (.bool false)∧Below w.heap.size w w':=by
 have KF:=((Box.new0 w (f.cells pa pc oa oc) 30).below (below_alloc _ (.cells (blankCells f.key f.stamp true) 30)))
 have KG:=Box.new0 (w.alloc (.cells (f.cells pa pc oa oc) 30)) (blankCells f.key f.stamp true) 30
 rw [World.size_alloc] at KG
 have HB:=Lib.hid (((Below.refl w.heap.size w).alloc (Nat.le_refl _) (.cells (f.cells pa pc oa oc) 30)).alloc (by simp) (.cells (blankCells f.key f.stamp true) 30))
 have c0:=(KF.cell 0).trans (show _=some (.string ⟨f.key.toArray⟩) from rfl)
 have c1:=(KF.cell 1).trans (show _=some (.int .i64 f.stamp) from rfl)
 have c2:=(KF.cell 2).trans (show _=some (.bool true) from by rw [← hc];rfl)
 have g0:=(KG.cell 0).trans (show _=some (.string ⟨f.key.toArray⟩) from rfl)
 have g1:=(KG.cell 1).trans (show _=some (.int .i64 f.stamp) from rfl)
 have g2:=(KG.cell 2).trans (show _=some (.bool true) from rfl)
 have g3:=(KG.cell 3).trans (show _=some (.int .i64 0) from rfl)
 have c3:=(KF.cell 3).trans (show _=some (.int .i64 0) from by show some (Value.int .i64 f.day)=_;rw [h0])
 have g4:=(KG.cell 4).trans (show _=some (.int .i64 0) from rfl)
 have c4:=(KF.cell 4).trans (show _=some (.int .i64 0) from by show some (Value.int .i64 f.kind)=_;rw [h1])
 have g5:=(KG.cell 5).trans (show _=some (.string ⟨#[]⟩) from rfl)
 have c5:=(KF.cell 5).trans (show _=some (.string ⟨#[]⟩) from by show some (Value.string ⟨f.ins.toArray⟩)=_;rw [h2])
 have g6:=(KG.cell 6).trans (show _=some (.string ⟨#[]⟩) from rfl)
 have c6:=(KF.cell 6).trans (show _=some (.string ⟨#[]⟩) from by show some (Value.string ⟨f.other.toArray⟩)=_;rw [h3])
 have g7:=(KG.cell 7).trans (show _=some (.string ⟨#[]⟩) from rfl)
 have c7:=(KF.cell 7).trans (show _=some (.string ⟨#[]⟩) from by show some (Value.string ⟨f.cur.toArray⟩)=_;rw [h4])
 have g8:=(KG.cell 8).trans (show _=some (.string ⟨#[]⟩) from rfl)
 have c8:=(KF.cell 8).trans (show _=some (.string ⟨#[]⟩) from by show some (Value.string ⟨f.target.toArray⟩)=_;rw [h5])
 have g9:=(KG.cell 9).trans (show _=some (.string ⟨#[]⟩) from rfl)
 have c9:=(KF.cell 9).trans (show _=some (.string ⟨#[]⟩) from by show some (Value.string ⟨f.q.toArray⟩)=_;rw [h6])
 have g10:=(KG.cell 10).trans (show _=some (.string ⟨#[]⟩) from rfl)
 have c10:=(KF.cell 10).trans (show _=some (.string ⟨#[]⟩) from by show some (Value.string ⟨f.amt.toArray⟩)=_;rw [h7])
 have g11:=(KG.cell 11).trans (show _=some (.string ⟨#[]⟩) from rfl)
 have c11:=(KF.cell 11).trans (show _=some (.string ⟨#[]⟩) from by show some (Value.string ⟨f.fee.toArray⟩)=_;rw [h8])
 have g12:=(KG.cell 12).trans (show _=some (.string ⟨#[]⟩) from rfl)
 have g13:=(KG.cell 13).trans (show _=some (.string ⟨#[]⟩) from rfl)
 have c12:=(KF.cell 12).trans (show _=some (.string ⟨#[]⟩) from by show some (Value.string ⟨f.price.n.toArray⟩)=_;rw [h9])
 have c13:=(KF.cell 13).trans (show _=some (.string ⟨#[]⟩) from by show some (Value.string ⟨f.price.d.toArray⟩)=_;rw [h9])
 have g14:=(KG.cell 14).trans (show _=some (.string ⟨#[]⟩) from rfl)
 have g15:=(KG.cell 15).trans (show _=some (.string ⟨#[]⟩) from rfl)
 have c14:=(KF.cell 14).trans (show _=some (.string ⟨(x :: xs).toArray⟩) from by show some (Value.string ⟨f.ratio.n.toArray⟩)=_;rw [hm])
 have c15:=(KF.cell 15).trans (show _=some (.string ⟨f.ratio.d.toArray⟩) from rfl)
 have KF:=Lib.hid KF
 have KG:=Lib.hid KG
 clear hc h0 h1 h2 h3 h4 h5 h6 h7 h8 h9 hm
 generalize f.cells pa pc oa oc=fc at *
 generalize blankCells f.key f.stamp true=gc at *
 generalize f.key=key at *
 generalize f.stamp=stamp at *
 generalize f.ratio.d=yy at *
 go_enter Tryz.func18,Tryz.ntmps18
 go_wp2_with fail
 go_ret
 exact ⟨rfl,HB.out⟩
theorem same_14 (f:FactP) (pa oa:Option Addr) (pc oc:Nat) (w:World) (hc:f.cancelled=true) (h0:f.day=0) (h1:f.kind=0) (h2:f.ins=[]) (h3:f.other=[]) (h4:f.cur=[]) (h5:f.target=[]) (h6:f.q=[]) (h7:f.amt=[]) (h8:f.fee=[]) (h9:f.price=⟨[],[]⟩) (h10:f.ratio=⟨[],[]⟩) (h11:f.share=⟨[],[]⟩) (h12:f.picks.length=0) (h13:f.options.length=0) (hm:(f.choice == 0)=false) :
  Calls Tryz.prog 18 #[.agg (f.cells pa pc oa oc),.agg (blankCells f.key f.stamp true)] w fun e w'=>e = .returned (.bool false)∧Below w.heap.size w w':=by
 have KF:=((Box.new0 w (f.cells pa pc oa oc) 30).below (below_alloc _ (.cells (blankCells f.key f.stamp true) 30)))
 have KG:=Box.new0 (w.alloc (.cells (f.cells pa pc oa oc) 30)) (blankCells f.key f.stamp true) 30
 rw [World.size_alloc] at KG
 have HB:=Lib.hid (((Below.refl w.heap.size w).alloc (Nat.le_refl _) (.cells (f.cells pa pc oa oc) 30)).alloc (by simp) (.cells (blankCells f.key f.stamp true) 30))
 have c0:=(KF.cell 0).trans (show _=some (.string ⟨f.key.toArray⟩) from rfl)
 have c1:=(KF.cell 1).trans (show _=some (.int .i64 f.stamp) from rfl)
 have c2:=(KF.cell 2).trans (show _=some (.bool true) from by rw [← hc];rfl)
 have g0:=(KG.cell 0).trans (show _=some (.string ⟨f.key.toArray⟩) from rfl)
 have g1:=(KG.cell 1).trans (show _=some (.int .i64 f.stamp) from rfl)
 have g2:=(KG.cell 2).trans (show _=some (.bool true) from rfl)
 have g3:=(KG.cell 3).trans (show _=some (.int .i64 0) from rfl)
 have c3:=(KF.cell 3).trans (show _=some (.int .i64 0) from by show some (Value.int .i64 f.day)=_;rw [h0])
 have g4:=(KG.cell 4).trans (show _=some (.int .i64 0) from rfl)
 have c4:=(KF.cell 4).trans (show _=some (.int .i64 0) from by show some (Value.int .i64 f.kind)=_;rw [h1])
 have g5:=(KG.cell 5).trans (show _=some (.string ⟨#[]⟩) from rfl)
 have c5:=(KF.cell 5).trans (show _=some (.string ⟨#[]⟩) from by show some (Value.string ⟨f.ins.toArray⟩)=_;rw [h2])
 have g6:=(KG.cell 6).trans (show _=some (.string ⟨#[]⟩) from rfl)
 have c6:=(KF.cell 6).trans (show _=some (.string ⟨#[]⟩) from by show some (Value.string ⟨f.other.toArray⟩)=_;rw [h3])
 have g7:=(KG.cell 7).trans (show _=some (.string ⟨#[]⟩) from rfl)
 have c7:=(KF.cell 7).trans (show _=some (.string ⟨#[]⟩) from by show some (Value.string ⟨f.cur.toArray⟩)=_;rw [h4])
 have g8:=(KG.cell 8).trans (show _=some (.string ⟨#[]⟩) from rfl)
 have c8:=(KF.cell 8).trans (show _=some (.string ⟨#[]⟩) from by show some (Value.string ⟨f.target.toArray⟩)=_;rw [h5])
 have g9:=(KG.cell 9).trans (show _=some (.string ⟨#[]⟩) from rfl)
 have c9:=(KF.cell 9).trans (show _=some (.string ⟨#[]⟩) from by show some (Value.string ⟨f.q.toArray⟩)=_;rw [h6])
 have g10:=(KG.cell 10).trans (show _=some (.string ⟨#[]⟩) from rfl)
 have c10:=(KF.cell 10).trans (show _=some (.string ⟨#[]⟩) from by show some (Value.string ⟨f.amt.toArray⟩)=_;rw [h7])
 have g11:=(KG.cell 11).trans (show _=some (.string ⟨#[]⟩) from rfl)
 have c11:=(KF.cell 11).trans (show _=some (.string ⟨#[]⟩) from by show some (Value.string ⟨f.fee.toArray⟩)=_;rw [h8])
 have g12:=(KG.cell 12).trans (show _=some (.string ⟨#[]⟩) from rfl)
 have g13:=(KG.cell 13).trans (show _=some (.string ⟨#[]⟩) from rfl)
 have c12:=(KF.cell 12).trans (show _=some (.string ⟨#[]⟩) from by show some (Value.string ⟨f.price.n.toArray⟩)=_;rw [h9])
 have c13:=(KF.cell 13).trans (show _=some (.string ⟨#[]⟩) from by show some (Value.string ⟨f.price.d.toArray⟩)=_;rw [h9])
 have g14:=(KG.cell 14).trans (show _=some (.string ⟨#[]⟩) from rfl)
 have g15:=(KG.cell 15).trans (show _=some (.string ⟨#[]⟩) from rfl)
 have c14:=(KF.cell 14).trans (show _=some (.string ⟨#[]⟩) from by show some (Value.string ⟨f.ratio.n.toArray⟩)=_;rw [h10])
 have c15:=(KF.cell 15).trans (show _=some (.string ⟨#[]⟩) from by show some (Value.string ⟨f.ratio.d.toArray⟩)=_;rw [h10])
 have g16:=(KG.cell 16).trans (show _=some (.string ⟨#[]⟩) from rfl)
 have g17:=(KG.cell 17).trans (show _=some (.string ⟨#[]⟩) from rfl)
 have c16:=(KF.cell 16).trans (show _=some (.string ⟨#[]⟩) from by show some (Value.string ⟨f.share.n.toArray⟩)=_;rw [h11])
 have c17:=(KF.cell 17).trans (show _=some (.string ⟨#[]⟩) from by show some (Value.string ⟨f.share.d.toArray⟩)=_;rw [h11])
 have g18:=(KG.cell 18).trans (show _=some (.slice none 0 0) from rfl)
 have c18:=(KF.cell 18).trans (show _=some (.slice pa f.picks.length pc) from rfl)
 have HQ12:Hid (∀ W,Calls Tryz.prog 42 #[.slice pa f.picks.length pc,.slice none 0 0] W fun e w'=>e = .returned (.bool true)∧Below W.heap.size W w'):=fun W=>eqNil_picks _ _ _ true (by simp [h12]) W
 have g19:=(KG.cell 19).trans (show _=some (.slice none 0 0) from rfl)
 have c19:=(KF.cell 19).trans (show _=some (.slice oa f.options.length oc) from rfl)
 have HQ13:Hid (∀ W,Calls Tryz.prog 43 #[.slice oa f.options.length oc,.slice none 0 0] W fun e w'=>e = .returned (.bool true)∧Below W.heap.size W w'):=fun W=>eqNil_options _ _ _ true (by simp [h13]) W
 have g20:=(KG.cell 20).trans (show _=some (.int .i64 0) from rfl)
 have c20:=(KF.cell 20).trans (show _=some (.int .i64 f.choice) from rfl)
 have KF:=Lib.hid KF
 have KG:=Lib.hid KG
 clear hc h0 h1 h2 h3 h4 h5 h6 h7 h8 h9 h10 h11 h12 h13
 generalize f.cells pa pc oa oc=fc at *
 generalize blankCells f.key f.stamp true=gc at *
 generalize f.key=key at *
 generalize f.stamp=stamp at *
 generalize f.picks.length=npicks at *
 generalize f.options.length=noptions at *
 generalize f.choice=xx at *
 go_enter Tryz.func18,Tryz.ntmps18
 go_wp2_with fail
 refine (HQ12.out _).mono ?_
 rintro e w1 ⟨rfl,hb1⟩
 have c19:=(hb1.cell (p:=⟨w.heap.size,19,none⟩) KF.out.1).trans c19
 have g19:=(hb1.cell (p:=⟨w.heap.size+1,19,none⟩) KG.out.1).trans g19
 have c20:=(hb1.cell (p:=⟨w.heap.size,20,none⟩) KF.out.1).trans c20
 have g20:=(hb1.cell (p:=⟨w.heap.size+1,20,none⟩) KG.out.1).trans g20
 have KF:=Lib.hid (KF.out.below hb1)
 have KG:=Lib.hid (KG.out.below hb1)
 have HB1:=Lib.hid (below_up HB.out hb1)
 clear hb1
 go_wp2_with fail
 refine (HQ13.out _).mono ?_
 rintro e w2 ⟨rfl,hb2⟩
 have c20:=(hb2.cell (p:=⟨w.heap.size,20,none⟩) KF.out.1).trans c20
 have g20:=(hb2.cell (p:=⟨w.heap.size+1,20,none⟩) KG.out.1).trans g20
 have KF:=Lib.hid (KF.out.below hb2)
 have KG:=Lib.hid (KG.out.below hb2)
 have HB2:=Lib.hid (below_up HB1.out hb2)
 clear hb2
 go_wp2_with fail
 go_ret
 exact ⟨rfl,HB2.out⟩
end
end Go.Proofs.YtbcebibkpfklnaaGreatDoor
