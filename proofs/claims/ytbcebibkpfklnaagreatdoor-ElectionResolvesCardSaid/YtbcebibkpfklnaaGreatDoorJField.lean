/- Field -/
import Derived.Test.YtbcebibkpfklnaaGreatDoorJCheck
import Derived.Test.YtbcebibkpfklnaaGreatDoorJFactC
import Derived.Test.YtbcebibkpfklnaaGreatDoorJText
set_option maxHeartbeats 16000000
set_option maxRecDepth 100000
namespace Go.Proofs.YtbcebibkpfklnaaGreatDoor
open Go Go.RowKit Num
theorem nameField_any (l:List UInt8) (w:World) (hl:l.length≤1000) :
  Calls Tryz.prog 89 #[.string ⟨l.toArray⟩] w fun e w'=>e = .returned (.int .i64 (nameErr l))∧Below w.heap.size w w':=by
 have HN:=Lib.hid (fun W=>Name_any l W (by omega))
 unfold nameErr
 generalize isName l=r at *
 cases r
 all_goals
  go_enter Tryz.func89,Tryz.ntmps89
  go_wp2_with fail
  refine (HN.out _).mono ?_
  rintro e w1 ⟨rfl,hb⟩
  go_wp2
  go_ret
  exact ⟨rfl,hb⟩
theorem field_0 (f:FactP) (pa oa:Option Addr) (pc oc:Nat) (k:KindP) (mv:Option Nat) (w:World) (hl:f.ins.length≤1000) :
  Calls Tryz.prog 64 #[.agg (f.cells pa pc oa oc),.agg (kcells k.word k.cls k.has (.map mv) k.code),.int .i64 0] w fun e w'=>e = .returned (.int .i64 (nameErr f.ins))∧Below w.heap.size w w':=by
 have KF:=(Box.new0 w (f.cells pa pc oa oc) 30).below (below_alloc _ (.cells (kcells k.word k.cls k.has (.map mv) k.code) 87))
 have KK:=Box.new0 (w.alloc (.cells (f.cells pa pc oa oc) 30)) (kcells k.word k.cls k.has (.map mv) k.code) 87
 rw [World.size_alloc] at KK
 have HB:=Lib.hid (((Below.refl w.heap.size w).alloc (Nat.le_refl _) (.cells (f.cells pa pc oa oc) 30)).alloc (by simp) (.cells (kcells k.word k.cls k.has (.map mv) k.code) 87))
 have c5:=(KF.cell 5).trans (show _=some (.string ⟨f.ins.toArray⟩) from rfl)
 have HN:=Lib.hid (fun W=>nameField_any f.ins W hl)
 have KF:=Lib.hid KF
 have KK:=Lib.hid KK
 generalize f.cells pa pc oa oc=fc at *
 generalize kcells k.word k.cls k.has (.map mv) k.code=kc at *
 generalize f.ins=ins at *
 generalize nameErr ins=r at *
 go_enter Tryz.func64,Tryz.ntmps64
 go_wp2_with fail
 refine (HN.out _).mono ?_
 rintro e w1 ⟨rfl,hb⟩
 go_wp2
 go_ret
 exact ⟨rfl,below_up HB.out hb⟩
theorem field_3 (f:FactP) (pa oa:Option Addr) (pc oc:Nat) (k:KindP) (mv:Option Nat) (w:World) (hl:f.target.length≤1000) :
  Calls Tryz.prog 64 #[.agg (f.cells pa pc oa oc),.agg (kcells k.word k.cls k.has (.map mv) k.code),.int .i64 3] w fun e w'=>e = .returned (.int .i64 (nameErr f.target))∧Below w.heap.size w w':=by
 have KF:=(Box.new0 w (f.cells pa pc oa oc) 30).below (below_alloc _ (.cells (kcells k.word k.cls k.has (.map mv) k.code) 87))
 have KK:=Box.new0 (w.alloc (.cells (f.cells pa pc oa oc) 30)) (kcells k.word k.cls k.has (.map mv) k.code) 87
 rw [World.size_alloc] at KK
 have HB:=Lib.hid (((Below.refl w.heap.size w).alloc (Nat.le_refl _) (.cells (f.cells pa pc oa oc) 30)).alloc (by simp) (.cells (kcells k.word k.cls k.has (.map mv) k.code) 87))
 have c8:=(KF.cell 8).trans (show _=some (.string ⟨f.target.toArray⟩) from rfl)
 have HN:=Lib.hid (fun W=>nameField_any f.target W hl)
 have KF:=Lib.hid KF
 have KK:=Lib.hid KK
 generalize f.cells pa pc oa oc=fc at *
 generalize kcells k.word k.cls k.has (.map mv) k.code=kc at *
 generalize f.target=ins at *
 generalize nameErr ins=r at *
 go_enter Tryz.func64,Tryz.ntmps64
 go_wp2_with fail
 refine (HN.out _).mono ?_
 rintro e w1 ⟨rfl,hb⟩
 go_wp2
 go_ret
 exact ⟨rfl,below_up HB.out hb⟩
theorem field_2 (f:FactP) (pa oa:Option Addr) (pc oc:Nat) (k:KindP) (mv:Option Nat) (w:World) (hl:f.cur.length≤1000) :
  Calls Tryz.prog 64 #[.agg (f.cells pa pc oa oc),.agg (kcells k.word k.cls k.has (.map mv) k.code),.int .i64 2] w fun e w'=>e = .returned (.int .i64 (if isCode f.cur=true then 0 else 12))∧Below w.heap.size w w':=by
 have KF:=(Box.new0 w (f.cells pa pc oa oc) 30).below (below_alloc _ (.cells (kcells k.word k.cls k.has (.map mv) k.code) 87))
 have KK:=Box.new0 (w.alloc (.cells (f.cells pa pc oa oc) 30)) (kcells k.word k.cls k.has (.map mv) k.code) 87
 rw [World.size_alloc] at KK
 have HB:=Lib.hid (((Below.refl w.heap.size w).alloc (Nat.le_refl _) (.cells (f.cells pa pc oa oc) 30)).alloc (by simp) (.cells (kcells k.word k.cls k.has (.map mv) k.code) 87))
 have c7:=(KF.cell 7).trans (show _=some (.string ⟨f.cur.toArray⟩) from rfl)
 have HN:=Lib.hid (fun W=>isCode_any f.cur W (by omega))
 have KF:=Lib.hid KF
 have KK:=Lib.hid KK
 generalize f.cells pa pc oa oc=fc at *
 generalize kcells k.word k.cls k.has (.map mv) k.code=kc at *
 generalize f.cur=cur at *
 generalize isCode cur=r at *
 cases r
 all_goals
  go_enter Tryz.func64,Tryz.ntmps64
  go_wp2_with fail
  refine (HN.out _).mono ?_
  rintro e w1 ⟨rfl,hb⟩
  go_wp2
  go_ret
  exact ⟨rfl,below_up HB.out hb⟩
theorem field_12 (f:FactP) (pa oa:Option Addr) (pc oc:Nat) (k:KindP) (mv:Option Nat) (w:World)  :
  Calls Tryz.prog 64 #[.agg (f.cells pa pc oa oc),.agg (kcells k.word k.cls k.has (.map mv) k.code),.int .i64 12] w fun e w'=>e = .returned (.int .i64 (if f.choice < 0 then 2 else 0))∧Below w.heap.size w w':=by
 have KF:=(Box.new0 w (f.cells pa pc oa oc) 30).below (below_alloc _ (.cells (kcells k.word k.cls k.has (.map mv) k.code) 87))
 have KK:=Box.new0 (w.alloc (.cells (f.cells pa pc oa oc) 30)) (kcells k.word k.cls k.has (.map mv) k.code) 87
 rw [World.size_alloc] at KK
 have HB:=Lib.hid (((Below.refl w.heap.size w).alloc (Nat.le_refl _) (.cells (f.cells pa pc oa oc) 30)).alloc (by simp) (.cells (kcells k.word k.cls k.has (.map mv) k.code) 87))
 have c20:=(KF.cell 20).trans (show _=some (.int .i64 f.choice) from rfl)
 have KF:=Lib.hid KF
 have KK:=Lib.hid KK
 generalize f.cells pa pc oa oc=fc at *
 generalize kcells k.word k.cls k.has (.map mv) k.code=kc at *
 generalize f.choice=x at *
 by_cases hx:x < 0
 ·rw [if_pos hx]
  go_enter Tryz.func64,Tryz.ntmps64
  go_wp2
  go_ret
  exact ⟨rfl,HB.out⟩
 ·rw [if_neg hx]
  go_enter Tryz.func64,Tryz.ntmps64
  go_wp2
  go_ret
  exact ⟨rfl,HB.out⟩
theorem field_10 (f:FactP) (pa oa:Option Addr) (pc oc:Nat) (k:KindP) (mv:Option Nat) (w:World) (hE:Env w) (hs:f.small) (hcap:f.picks.length≤pc) (hb:f.Behind w pa oa) :
  Calls Tryz.prog 64 #[.agg (f.cells pa pc oa oc),.agg (kcells k.word k.cls k.has (.map mv) k.code),.int .i64 10] w fun e w'=>e = .returned (.int .i64 (pickErr f))∧Below w.heap.size w w':=by
 have KF:=(Box.new0 w (f.cells pa pc oa oc) 30).below (below_alloc _ (.cells (kcells k.word k.cls k.has (.map mv) k.code) 87))
 have KK:=Box.new0 (w.alloc (.cells (f.cells pa pc oa oc) 30)) (kcells k.word k.cls k.has (.map mv) k.code) 87
 rw [World.size_alloc] at KK
 have HB:=Lib.hid (((Below.refl w.heap.size w).alloc (Nat.le_refl _) (.cells (f.cells pa pc oa oc) 30)).alloc (by simp) (.cells (kcells k.word k.cls k.has (.map mv) k.code) 87))
 have HSZ:Hid ((Tryz.prog.info? 30).map (·.size)=some (f.cells pa pc oa oc).size):=factSize f pa oa pc oc
 have HC:=Lib.hid (fun W hE hb=>checkPicks_any f pa oa pc oc W hE hs hcap hb)
 have HE:=Lib.hid hE
 have HBH:=Lib.hid hb
 clear hE hb
 have KF:=Lib.hid KF
 have KK:=Lib.hid KK
 generalize f.cells pa pc oa oc=fc at *
 generalize kcells k.word k.cls k.has (.map mv) k.code=kc at *
 generalize pickErr f=r at *
 go_enter Tryz.func64,Tryz.ntmps64
 go_wp2_with (refine wpList_load_row rfl 30 _ rfl w.heap.size rfl 30 fc (0,0) _ KF.out.2 Tryz.underlying30 rfl HSZ.out ?_)
 refine (HC.out _ (HE.out.below HB.out) (HBH.out.below HB.out)).mono ?_
 rintro e w1 ⟨rfl,hb⟩
 go_wp2
 go_ret
 exact ⟨rfl,below_up HB.out hb⟩
theorem field_11 (f:FactP) (pa oa:Option Addr) (pc oc:Nat) (k:KindP) (mv:Option Nat) (w:World) (hE:Env w) (hs:f.small) (hb:f.Behind w pa oa) :
  Calls Tryz.prog 64 #[.agg (f.cells pa pc oa oc),.agg (kcells k.word k.cls k.has (.map mv) k.code),.int .i64 11] w fun e w'=>e = .returned (.int .i64 (optErr f))∧Below w.heap.size w w':=by
 have KF:=(Box.new0 w (f.cells pa pc oa oc) 30).below (below_alloc _ (.cells (kcells k.word k.cls k.has (.map mv) k.code) 87))
 have KK:=Box.new0 (w.alloc (.cells (f.cells pa pc oa oc) 30)) (kcells k.word k.cls k.has (.map mv) k.code) 87
 rw [World.size_alloc] at KK
 have HB:=Lib.hid (((Below.refl w.heap.size w).alloc (Nat.le_refl _) (.cells (f.cells pa pc oa oc) 30)).alloc (by simp) (.cells (kcells k.word k.cls k.has (.map mv) k.code) 87))
 have HSZ:Hid ((Tryz.prog.info? 30).map (·.size)=some (f.cells pa pc oa oc).size):=factSize f pa oa pc oc
 have HC:=Lib.hid (fun W hE hb=>checkOptions_any f pa oa pc oc W hE hs hb)
 have HE:=Lib.hid hE
 have HBH:=Lib.hid hb
 clear hE hb
 have KF:=Lib.hid KF
 have KK:=Lib.hid KK
 generalize f.cells pa pc oa oc=fc at *
 generalize kcells k.word k.cls k.has (.map mv) k.code=kc at *
 generalize optErr f=r at *
 go_enter Tryz.func64,Tryz.ntmps64
 go_wp2_with (refine wpList_load_row rfl 30 _ rfl w.heap.size rfl 30 fc (0,0) _ KF.out.2 Tryz.underlying30 rfl HSZ.out ?_)
 refine (HC.out _ (HE.out.below HB.out) (HBH.out.below HB.out)).mono ?_
 rintro e w1 ⟨rfl,hb⟩
 go_wp2
 go_ret
 exact ⟨rfl,below_up HB.out hb⟩
theorem field_1t (f:FactP) (pa oa:Option Addr) (pc oc:Nat) (k:KindP) (mv:Option Nat) (w:World) (hl:f.other.length≤1000) (hc:k.code=true) :
  Calls Tryz.prog 64 #[.agg (f.cells pa pc oa oc),.agg (kcells k.word k.cls k.has (.map mv) k.code),.int .i64 1] w fun e w'=>e = .returned (.int .i64 (otherErr f true))∧Below w.heap.size w w':=by
 have KF:=(Box.new0 w (f.cells pa pc oa oc) 30).below (below_alloc _ (.cells (kcells k.word k.cls k.has (.map mv) k.code) 87))
 have KK:=Box.new0 (w.alloc (.cells (f.cells pa pc oa oc) 30)) (kcells k.word k.cls k.has (.map mv) k.code) 87
 rw [World.size_alloc] at KK
 have HB:=Lib.hid (((Below.refl w.heap.size w).alloc (Nat.le_refl _) (.cells (f.cells pa pc oa oc) 30)).alloc (by simp) (.cells (kcells k.word k.cls k.has (.map mv) k.code) 87))
 have c5:=(KF.cell 5).trans (show _=some (.string ⟨f.ins.toArray⟩) from rfl)
 have c6:=(KF.cell 6).trans (show _=some (.string ⟨f.other.toArray⟩) from rfl)
 have c7:=(KF.cell 7).trans (show _=some (.string ⟨f.cur.toArray⟩) from rfl)
 have k16:=(KK.cell 16).trans (show _=some (.bool true) from by rw [hc];unfold kcells;rw [List.getElem?_toArray,List.getElem?_append_right (by simp [has_len])];simp [has_len])
 have HN:=Lib.hid (fun W=>isCode_any f.other W (by omega))
 unfold otherErr
 have KF:=Lib.hid KF
 have KK:=Lib.hid KK
 generalize f.cells pa pc oa oc=fc at *
 generalize kcells k.word k.cls k.has (.map mv) k.code=kc at *
 generalize f.ins=ins at *
 generalize f.other=other at *
 generalize f.cur=cur at *
 generalize isCode other=r at *
 cases heq:(other == cur) <;> cases r
 all_goals
  go_enter Tryz.func64,Tryz.ntmps64
  go_wp2_with fail
  refine (HN.out _).mono ?_
  rintro e w1 ⟨rfl,hb⟩
  have d5:=(hb.cell (p:=⟨w.heap.size,5,none⟩) KF.out.1).trans c5
  have d6:=(hb.cell (p:=⟨w.heap.size,6,none⟩) KF.out.1).trans c6
  have d7:=(hb.cell (p:=⟨w.heap.size,7,none⟩) KF.out.1).trans c7
  go_wp2
  go_ret
  exact ⟨rfl,below_up HB.out hb⟩
theorem field_1f (f:FactP) (pa oa:Option Addr) (pc oc:Nat) (k:KindP) (mv:Option Nat) (w:World) (hl:f.other.length≤1000) (hc:k.code=false) :
  Calls Tryz.prog 64 #[.agg (f.cells pa pc oa oc),.agg (kcells k.word k.cls k.has (.map mv) k.code),.int .i64 1] w fun e w'=>e = .returned (.int .i64 (otherErr f false))∧Below w.heap.size w w':=by
 have KF:=(Box.new0 w (f.cells pa pc oa oc) 30).below (below_alloc _ (.cells (kcells k.word k.cls k.has (.map mv) k.code) 87))
 have KK:=Box.new0 (w.alloc (.cells (f.cells pa pc oa oc) 30)) (kcells k.word k.cls k.has (.map mv) k.code) 87
 rw [World.size_alloc] at KK
 have HB:=Lib.hid (((Below.refl w.heap.size w).alloc (Nat.le_refl _) (.cells (f.cells pa pc oa oc) 30)).alloc (by simp) (.cells (kcells k.word k.cls k.has (.map mv) k.code) 87))
 have c5:=(KF.cell 5).trans (show _=some (.string ⟨f.ins.toArray⟩) from rfl)
 have c6:=(KF.cell 6).trans (show _=some (.string ⟨f.other.toArray⟩) from rfl)
 have k16:=(KK.cell 16).trans (show _=some (.bool false) from by rw [hc];unfold kcells;rw [List.getElem?_toArray,List.getElem?_append_right (by simp [has_len])];simp [has_len])
 have HN:=Lib.hid (fun W=>nameField_any f.other W (by omega))
 unfold otherErr
 unfold nameErr at HN
 have KF:=Lib.hid KF
 have KK:=Lib.hid KK
 generalize f.cells pa pc oa oc=fc at *
 generalize kcells k.word k.cls k.has (.map mv) k.code=kc at *
 generalize f.ins=ins at *
 generalize f.other=other at *
 generalize isName other=r at *
 cases heq:(other == ins) <;> cases r
 all_goals
  go_enter Tryz.func64,Tryz.ntmps64
  go_wp2_with fail
  refine (HN.out _).mono ?_
  rintro e w1 ⟨rfl,hb⟩
  have d6:=(hb.cell (p:=⟨w.heap.size,6,none⟩) KF.out.1).trans c6
  go_wp2
  go_ret
  exact ⟨rfl,below_up HB.out hb⟩
theorem field_gen (f:FactP) (pa oa:Option Addr) (pc oc:Nat) (k:KindP) (mv:Option Nat) (w:World) (i:Int) (x:FracP) (n0:(i == 0)=false) (n1:(i == 1)=false) (n2:(i == 2)=false) (n3:(i == 3)=false) (n10:(i == 10)=false) (n11:(i == 11)=false) (n12:(i == 12)=false) (hval:∀ W,Calls Tryz.prog 93 #[.agg (f.cells pa pc oa oc),.int .i64 i] W fun e w'=>e = .returned x.agg∧Below W.heap.size W w') (hfs:x.n.length≤60∧x.d.length≤60) (hE:Env w) (mb:Nat) (kvs:List (Int × Value)) (p q:Bool) (hm:mv=some mb) (ham:AtMap w mb kvs) (pv:Int × Value) (hfd:kvs.find? (fun p=>p.1 == i)=some pv) (hpq:(p && q)=false) (hl:LimAt w pv.2 (p,q)) :
  Calls Tryz.prog 64 #[.agg (f.cells pa pc oa oc),.agg (kcells k.word k.cls k.has (.map mv) k.code),.int .i64 i] w fun e w'=>e = .returned (.int .i64 (lim p q x.n x.d))∧Below w.heap.size w w':=by
 have KF:=(Box.new0 w (f.cells pa pc oa oc) 30).below (below_alloc _ (.cells (kcells k.word k.cls k.has (.map mv) k.code) 87))
 have KK:=Box.new0 (w.alloc (.cells (f.cells pa pc oa oc) 30)) (kcells k.word k.cls k.has (.map mv) k.code) 87
 rw [World.size_alloc] at KK
 have HB:=Lib.hid (((Below.refl w.heap.size w).alloc (Nat.le_refl _) (.cells (f.cells pa pc oa oc) 30)).alloc (by simp) (.cells (kcells k.word k.cls k.has (.map mv) k.code) 87))
 obtain ⟨bp,bq,hpv,LP,LQ⟩:=hl
 have HLK:Hid (∀ W,AtMap W mb kvs→(Instr.lookup 85 (.map (some mb)) (.int .i64 i) false).run Tryz.prog W = .ok (.func (.func 111) #[] #[.pointer (some ⟨bp,0,none⟩),.pointer (some ⟨bq,0,none⟩)]) W):=fun W h=>by
  have e:=run_lookup_find (ok:=false) Tryz.underlying85 Tryz.underlying3 h i pv hfd
  rw [hpv] at e
  exact e
 have HLD:Hid (∀ W,Box W w.heap.size (f.cells pa pc oa oc) 30→(Instr.loadAt 30 (.pointer (some ⟨w.heap.size,0,none⟩))).run Tryz.prog W = .ok (.agg (f.cells pa pc oa oc)) W):=fun W h=>run_loadAt_box h Tryz.underlying30 rfl (factSize f pa oa pc oc)
 have HVAL:=Lib.hid hval
 have HLIM:Hid (∀ W,Env W→Box W bp #[.bool p] 4→Box W bq #[.bool q] 4→Calls Tryz.prog 111 #[x.agg,.pointer (some ⟨bp,0,none⟩),.pointer (some ⟨bq,0,none⟩)] W fun e w'=>e = .returned (.int .i64 (lim p q x.n x.d))∧Below W.heap.size W w'):=fun W hE h1 h2=>lim_pq p q hpq _ _ bp bq W hE hfs.1 hfs.2 h1 h2
 have HK15:Hid ((kcells k.word k.cls k.has (.map mv) k.code)[15]? = some (.map (some mb))):=by show _=_;rw [hm];exact kcells_map
 have HE:=Lib.hid hE
 have LP:=Lib.hid LP
 have LQ:=Lib.hid LQ
 have HAM:=Lib.hid ham
 clear hE ham hfd hpq hm hpv hfs hval
 have KF:=Lib.hid KF
 have KK:=Lib.hid KK
 generalize f.cells pa pc oa oc=fc at *
 generalize kcells k.word k.cls k.has (.map mv) k.code=kc at *
 generalize lim p q x.n x.d=r at *
 generalize x.agg=va at *
 go_enter Tryz.func64,Tryz.ntmps64
 go_wp2_with fail
 have HBc:=below_drewN HB.out 1
 have KX:=KK.out.below (below_drewN (Below.refl _ _) 1)
 have KY:=KF.out.below (below_drewN (Below.refl _ _) 1)
 have AM:=HAM.out.below HBc
 refine wp_region_held_drew (S:=fun W=>W.cell? ⟨w.heap.size+1,15,none⟩=some (.map (some mb))∧(Instr.lookup 85 (.map (some mb)) (.int .i64 i) false).run Tryz.prog W = .ok (.func (.func 111) #[] #[.pointer (some ⟨bp,0,none⟩),.pointer (some ⟨bq,0,none⟩)]) W∧(Instr.loadAt 30 (.pointer (some ⟨w.heap.size,0,none⟩))).run Tryz.prog W = .ok (.agg fc) W) (by kernel_rfl) ?hS1 (fun hHeld => ?hR1)
 case hS1=>exact ⟨KX.cell 15 |>.trans HK15.out,HLK.out _ AM,HLD.out _ KY⟩
 refine tk 0 (some 11) (?v2) rfl rfl ?hy2 ?hR2
 case hy2=>(intro w hSw;(try dsimp only at hSw);go_simp;try rfl)
 simp only [pS]
 refine tk 1 (some 12) (?v3) rfl rfl ?hy3 ?hR3
 case hy3=>(intro w hSw;(try dsimp only at hSw);go_simp;try rfl)
 simp only [pS]
 refine tk 2 (some 13) (?v4) rfl rfl ?hy4 ?hR4
 case hy4=>(intro w hSw;(try dsimp only at hSw);go_simp;try rfl)
 simp only [pS]
 refine tk 3 (some 14) (?v5) rfl rfl ?hy5 ?hR5
 case hy5=>(intro w hSw;(try dsimp only at hSw);go_simp;try rfl)
 simp only [pS]
 refine tk 4 (some 15) (?v6) rfl rfl ?hy6 ?hR6
 case hy6=>(intro w hSw;refine Eq.trans (y_load rfl ?_ hSw.2.2) ?_;rfl;rfl)
 simp only [pS]
 refine tk 5 (some 16) (?v7) rfl rfl ?hy7 ?hR7
 case hy7=>(intro w hSw;(try dsimp only at hSw);go_simp;try rfl)
 simp only [pS]
 refine wpAnyH_ready (rs:=[6]) (by kernel_rfl) (by simp) ?_
 refine AllReadyH.cons (o:=_) rfl (fun K hK => ?hC8) AllReadyH.nil
 rw [if_pos (by rfl)]
 go_simp
 go_at_call 93
 refine (HVAL.out _).mono ?_
 rintro e wn ⟨rfl,hbn⟩
 replace HBc:=below_up HBc hbn
 replace KX:=KX.below hbn
 replace KY:=KY.below hbn
 replace AM:=AM.below hbn
 clear hbn
 go_wp2_with fail
 refine hK.out _ _ ?hS8 (fun hHeld => ?hR8)
 case hS8=>exact ⟨KX.cell 15 |>.trans HK15.out,HLK.out _ AM,HLD.out _ KY⟩
 try simp only [pS]
 refine wpAnyH_ready (rs:=[7]) (by kernel_rfl) (by simp) ?_
 refine AllReadyH.cons (o:=_) rfl (fun K hK => ?hC9) AllReadyH.nil
 rw [if_pos (by rfl)]
 go_simp
 go_at_call 111
 refine (HLIM.out _ (HE.out.below HBc) (LP.out.below HBc) (LQ.out.below HBc)).mono ?_
 rintro e wn ⟨rfl,hbn⟩
 replace HBc:=below_up HBc hbn
 replace KX:=KX.below hbn
 replace KY:=KY.below hbn
 replace AM:=AM.below hbn
 clear hbn
 go_wp2_with fail
 refine hK.out _ _ ?hS9 (fun hHeld => ?hR9)
 case hS9=>exact ⟨KX.cell 15 |>.trans HK15.out,HLK.out _ AM,HLD.out _ KY⟩
 try simp only [pS]
 refine tk 8 (some 6) (?v10) rfl rfl ?hy10 ?hR10
 case hy10=>(intro w hSw;(try dsimp only at hSw);go_simp;try rfl)
 simp only [pS]
 refine wpAnyH_done (by kernel_rfl) ?_ _
 go_wp2
 go_ret
 exact ⟨rfl,HBc⟩
theorem field_4 (f:FactP) (pa oa:Option Addr) (pc oc:Nat) (k:KindP) (mv:Option Nat) (w:World) (hE:Env w) (hs:f.small) (mb:Nat) (kvs:List (Int × Value)) (p q:Bool) (hm:mv=some mb) (ham:AtMap w mb kvs) (pv:Int × Value) (hfd:kvs.find? (fun p=>p.1 == 4)=some pv) (hpq:(p && q)=false) (hl:LimAt w pv.2 (p,q)) :
  Calls Tryz.prog 64 #[.agg (f.cells pa pc oa oc),.agg (kcells k.word k.cls k.has (.map mv) k.code),.int .i64 4] w fun e w'=>e = .returned (.int .i64 (lim p q (f.num 4).n (f.num 4).d))∧Below w.heap.size w w' :=
 field_gen f pa oa pc oc k mv w 4 _ rfl rfl rfl rfl rfl rfl rfl (fun W=>value_4 f pa oa pc oc W) (num_small hs 4) hE mb kvs p q hm ham pv hfd hpq hl
theorem field_5 (f:FactP) (pa oa:Option Addr) (pc oc:Nat) (k:KindP) (mv:Option Nat) (w:World) (hE:Env w) (hs:f.small) (mb:Nat) (kvs:List (Int × Value)) (p q:Bool) (hm:mv=some mb) (ham:AtMap w mb kvs) (pv:Int × Value) (hfd:kvs.find? (fun p=>p.1 == 5)=some pv) (hpq:(p && q)=false) (hl:LimAt w pv.2 (p,q)) :
  Calls Tryz.prog 64 #[.agg (f.cells pa pc oa oc),.agg (kcells k.word k.cls k.has (.map mv) k.code),.int .i64 5] w fun e w'=>e = .returned (.int .i64 (lim p q (f.num 5).n (f.num 5).d))∧Below w.heap.size w w' :=
 field_gen f pa oa pc oc k mv w 5 _ rfl rfl rfl rfl rfl rfl rfl (fun W=>value_5 f pa oa pc oc W) (num_small hs 5) hE mb kvs p q hm ham pv hfd hpq hl
theorem field_6 (f:FactP) (pa oa:Option Addr) (pc oc:Nat) (k:KindP) (mv:Option Nat) (w:World) (hE:Env w) (hs:f.small) (mb:Nat) (kvs:List (Int × Value)) (p q:Bool) (hm:mv=some mb) (ham:AtMap w mb kvs) (pv:Int × Value) (hfd:kvs.find? (fun p=>p.1 == 6)=some pv) (hpq:(p && q)=false) (hl:LimAt w pv.2 (p,q)) :
  Calls Tryz.prog 64 #[.agg (f.cells pa pc oa oc),.agg (kcells k.word k.cls k.has (.map mv) k.code),.int .i64 6] w fun e w'=>e = .returned (.int .i64 (lim p q (f.num 6).n (f.num 6).d))∧Below w.heap.size w w' :=
 field_gen f pa oa pc oc k mv w 6 _ rfl rfl rfl rfl rfl rfl rfl (fun W=>value_6 f pa oa pc oc W) (num_small hs 6) hE mb kvs p q hm ham pv hfd hpq hl
theorem field_7 (f:FactP) (pa oa:Option Addr) (pc oc:Nat) (k:KindP) (mv:Option Nat) (w:World) (hE:Env w) (hs:f.small) (mb:Nat) (kvs:List (Int × Value)) (p q:Bool) (hm:mv=some mb) (ham:AtMap w mb kvs) (pv:Int × Value) (hfd:kvs.find? (fun p=>p.1 == 7)=some pv) (hpq:(p && q)=false) (hl:LimAt w pv.2 (p,q)) :
  Calls Tryz.prog 64 #[.agg (f.cells pa pc oa oc),.agg (kcells k.word k.cls k.has (.map mv) k.code),.int .i64 7] w fun e w'=>e = .returned (.int .i64 (lim p q (f.num 7).n (f.num 7).d))∧Below w.heap.size w w' :=
 field_gen f pa oa pc oc k mv w 7 _ rfl rfl rfl rfl rfl rfl rfl (fun W=>value_7 f pa oa pc oc W) (num_small hs 7) hE mb kvs p q hm ham pv hfd hpq hl
theorem field_8 (f:FactP) (pa oa:Option Addr) (pc oc:Nat) (k:KindP) (mv:Option Nat) (w:World) (hE:Env w) (hs:f.small) (mb:Nat) (kvs:List (Int × Value)) (p q:Bool) (hm:mv=some mb) (ham:AtMap w mb kvs) (pv:Int × Value) (hfd:kvs.find? (fun p=>p.1 == 8)=some pv) (hpq:(p && q)=false) (hl:LimAt w pv.2 (p,q)) :
  Calls Tryz.prog 64 #[.agg (f.cells pa pc oa oc),.agg (kcells k.word k.cls k.has (.map mv) k.code),.int .i64 8] w fun e w'=>e = .returned (.int .i64 (lim p q (f.num 8).n (f.num 8).d))∧Below w.heap.size w w' :=
 field_gen f pa oa pc oc k mv w 8 _ rfl rfl rfl rfl rfl rfl rfl (fun W=>value_8 f pa oa pc oc W) (num_small hs 8) hE mb kvs p q hm ham pv hfd hpq hl
theorem field_9 (f:FactP) (pa oa:Option Addr) (pc oc:Nat) (k:KindP) (mv:Option Nat) (w:World) (hE:Env w) (hs:f.small) (mb:Nat) (kvs:List (Int × Value)) (p q:Bool) (hm:mv=some mb) (ham:AtMap w mb kvs) (pv:Int × Value) (hfd:kvs.find? (fun p=>p.1 == 9)=some pv) (hpq:(p && q)=false) (hl:LimAt w pv.2 (p,q)) :
  Calls Tryz.prog 64 #[.agg (f.cells pa pc oa oc),.agg (kcells k.word k.cls k.has (.map mv) k.code),.int .i64 9] w fun e w'=>e = .returned (.int .i64 (lim p q (f.num 9).n (f.num 9).d))∧Below w.heap.size w w' :=
 field_gen f pa oa pc oc k mv w 9 _ rfl rfl rfl rfl rfl rfl rfl (fun W=>value_9 f pa oa pc oc W) (num_small hs 9) hE mb kvs p q hm ham pv hfd hpq hl
end Go.Proofs.YtbcebibkpfklnaaGreatDoor
