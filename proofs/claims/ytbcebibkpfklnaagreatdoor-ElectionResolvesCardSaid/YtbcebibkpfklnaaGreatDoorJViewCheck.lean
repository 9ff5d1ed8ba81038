/- FCompare ViewCheck -/
import Derived.Test.YtbcebibkpfklnaaGreatDoorJClass
import Derived.Test.YtbcebibkpfklnaaGreatDoorJLog
import Derived.Test.YtbcebibkpfklnaaGreatDoorJDate
set_option maxHeartbeats 16000000
set_option maxRecDepth 100000
namespace Go.Proofs.YtbcebibkpfklnaaGreatDoor
section
open Go Go.RowKit Num
noncomputable def cmpOps:Array Oper:=(Tryz.f61.body.bind (regIn 3)).getD #[]
def cmpDs:List (Nat × Nat):=[(0,21),(1,22),(2,23),(3,24),(4,25),(5,26),(6,27),(7,28),(8,29),(9,30),(10,31),(11,32),(12,33),(13,34),(14,35),(15,4)]
structure CC where
 W0:World
 b2:Nat
 b3:Nat
 d1:Int
 d2:Int
 k1:Int
 k2:Int
 s1:List UInt8
 s2:List UInt8
def CC.row (C:CC):Array Value:=#[.int .i64 (cmpI C.d1 C.d2),.int .i64 (cmpI C.k1 C.k2),.int .i64 (cmpL C.s1 C.s2)]
def CC.res (C:CC):Value:=.int .i64 (or3 (cmpI C.d1 C.d2) (cmpI C.k1 C.k2) (cmpL C.s1 C.s2))
def CC.val (C:CC) (_:Unit):Nat→Value
 | 0 => .pointer (some ⟨C.b2,3,none⟩)
 | 1 => .int .i64 C.d1
 | 2 => .pointer (some ⟨C.b3,3,none⟩)
 | 3 => .int .i64 C.d2
 | 4 => .int .i64 (cmpI C.d1 C.d2)
 | 5 => .int .i64 C.k1
 | 6 => .int .i64 C.k2
 | 7 => .int .i64 (cmpI C.k1 C.k2)
 | 8 => .pointer (some ⟨C.b2,0,none⟩)
 | 9 => .string ⟨C.s1.toArray⟩
 | 10 => .pointer (some ⟨C.b3,0,none⟩)
 | 11 => .string ⟨C.s2.toArray⟩
 | 12 => .int .i64 (cmpL C.s1 C.s2)
 | 13 => .slice (some ⟨C.W0.heap.size,0,none⟩) 3 3
 | 14=>C.res
 | _=>C.res
def CC.g (C:CC) (_:Unit) (l:Array Bool) (W:World):Prop:=(¬ on' l 13∧W=C.W0)∨(on' l 13∧W=C.W0.alloc (.cells C.row 3))
structure CM (C:CC) (t0:Array Value):Prop where
 sz:t0.size=36
 t2:t0[2]? = some (.pointer (some ⟨C.b2,0,none⟩))
 t3:t0[3]? = some (.pointer (some ⟨C.b3,0,none⟩))
 t5:t0[5]? = some (.int .i64 C.k1)
 t7:t0[7]? = some (.int .i64 C.k2)
 l2:C.b2 < C.W0.heap.size
 l3:C.b3 < C.W0.heap.size
 c1:C.W0.cell? ⟨C.b2,3,none⟩=some (.int .i64 C.d1)
 c2:C.W0.cell? ⟨C.b3,3,none⟩=some (.int .i64 C.d2)
 c3:C.W0.cell? ⟨C.b2,0,none⟩=some (.string ⟨C.s1.toArray⟩)
 c4:C.W0.cell? ⟨C.b3,0,none⟩=some (.string ⟨C.s2.toArray⟩)
section
variable {C:CC} {t0:Array Value} {Q:Exit→Act→World→Prop} {l:Array Bool} {w:World}
theorem CC.keep {i:Nat} (hi:i ≠ 13) (h:C.g () l w):C.g () (l.setIfInBounds i true) w:=by
 rcases h with ⟨h,e⟩ | ⟨h,e⟩
 ·exact .inl ⟨fun h'=>h (on'_back h' (Ne.symm hi)),e⟩
 ·exact .inr ⟨on'_set h,e⟩
theorem CC.cell {b j:Nat} {v:Value} (hb:b < C.W0.heap.size) (hc:C.W0.cell? ⟨b,j,none⟩=some v) (h:C.g () l w):w.cell? ⟨b,j,none⟩=some v:=by
 rcases h with ⟨_,rfl⟩ | ⟨_,rfl⟩
 ·exact hc
 ·exact ((below_alloc C.W0 _).cell (p:=⟨b,j,none⟩) hb).trans hc
theorem cmp_region (M:CM C t0) {a:Act} (hdf:a.defers=[]) (ht:a.tmps=t0) (hw:w.drewN 1=C.W0)
  (hQ:Q .normal { tmps:=layT (C.val ()) cmpDs t0,defers:=[] } (C.W0.alloc (.cells C.row 3))):(Code.region 3 cmpOps true).wp Tryz.prog Q a w:=by
 have hsz:cmpOps.size=16:=by kernel_rfl
 refine flow_region (ds:=cmpDs) (val:=C.val) (G:=C.g) (by kernel_rfl) (by kernel_rfl) (by decide) (fun p hp => ?_) (by kernel_rfl) ?_ (γ:=()) hdf ht (.inl ⟨no_on _ _,hw⟩) ?_
 ·rw [M.sz]
  have:∀ p,p∈cmpDs→p.2 < 36:=by decide
  exact this p hp
 ·intro γ l a w i H hr
  cases γ
  have hi:i < 16:=by
   obtain ⟨_,o,ho,_⟩:=mem_ready.1 hr
   have:=(Array.getElem?_eq_some_iff.1 ho).1
   rw [hsz] at this
   exact this
  have t2:=H.low (s:=2) (by decide) M.t2
  have t3:=H.low (s:=3) (by decide) M.t3
  have t5:=H.low (s:=5) (by decide) M.t5
  have t7:=H.low (s:=7) (by decide) M.t7
  match i,hi,hr with
  | 0,_,hr=>exact flow_val (X:=.fieldAddr 30 (.tmp 2) 3) (by kernel_rfl) (fun o h=>by simp [execOp,h,t2,go_sem];rfl) rfl (CC.keep (by decide) H.g)
  | 1,_,hr =>
   have v0:a.tmps[21]? = some (.pointer (some ⟨C.b2,3,none⟩)):=H.dep hr 0 21 (by kernel_rfl) ⟨rfl,by decide⟩
   have hc:=CC.cell M.l2 M.c1 H.g
   exact flow_val (X:=.load 23 (.tmp 21)) (by kernel_rfl) (fun o h=>by simp [execOp,h,v0,hc,go_sem];rfl) rfl (CC.keep (by decide) H.g)
  | 2,_,hr=>exact flow_val (X:=.fieldAddr 30 (.tmp 3) 3) (by kernel_rfl) (fun o h=>by simp [execOp,h,t3,go_sem];rfl) rfl (CC.keep (by decide) H.g)
  | 3,_,hr =>
   have v0:a.tmps[23]? = some (.pointer (some ⟨C.b3,3,none⟩)):=H.dep hr 2 23 (by kernel_rfl) ⟨rfl,by decide⟩
   have hc:=CC.cell M.l3 M.c2 H.g
   exact flow_val (X:=.load 23 (.tmp 23)) (by kernel_rfl) (fun o h=>by simp [execOp,h,v0,hc,go_sem];rfl) rfl (CC.keep (by decide) H.g)
  | 4,_,hr =>
   have v0:a.tmps[22]? = some (.int .i64 C.d1):=H.dep hr 1 22 (by kernel_rfl) ⟨rfl,by decide⟩
   have v1:a.tmps[24]? = some (.int .i64 C.d2):=H.dep hr 3 24 (by kernel_rfl) ⟨rfl,by decide⟩
   refine flow_call (f:=80) (lb:=#[]) (c:=.func 80) (args:=#[.tmp 22,.tmp 24]) (ts:=#[23,23]) (vs:=#[.int .i64 C.d1,.int .i64 C.d2]) (by kernel_rfl) rfl (enters_of Tryz.func80 (by kernel_rfl) rfl) (by simp [Act.eval,v0,v1]) ((cmpDay_any _ _ _).mono ?_)
   rintro e w' ⟨rfl,rfl⟩
   exact ⟨_,(),rfl,rfl,fun _ _=>rfl,CC.keep (by decide) H.g⟩
  | 5,_,hr=>exact flow_val (X:=.move (.tmp 5)) (by kernel_rfl) (fun o h=>by simp [execOp,h,t5,go_sem];rfl) rfl (CC.keep (by decide) H.g)
  | 6,_,hr=>exact flow_val (X:=.move (.tmp 7)) (by kernel_rfl) (fun o h=>by simp [execOp,h,t7,go_sem];rfl) rfl (CC.keep (by decide) H.g)
  | 7,_,hr =>
   have v0:a.tmps[26]? = some (.int .i64 C.k1):=H.dep hr 5 26 (by kernel_rfl) ⟨rfl,by decide⟩
   have v1:a.tmps[27]? = some (.int .i64 C.k2):=H.dep hr 6 27 (by kernel_rfl) ⟨rfl,by decide⟩
   refine flow_call (f:=81) (lb:=#[]) (c:=.func 81) (args:=#[.tmp 26,.tmp 27]) (ts:=#[3,3]) (vs:=#[.int .i64 C.k1,.int .i64 C.k2]) (by kernel_rfl) rfl (enters_of Tryz.func81 (by kernel_rfl) rfl) (by simp [Act.eval,v0,v1]) ((cmpInt_any _ _ _).mono ?_)
   rintro e w' ⟨rfl,rfl⟩
   exact ⟨_,(),rfl,rfl,fun _ _=>rfl,CC.keep (by decide) H.g⟩
  | 8,_,hr=>exact flow_val (X:=.fieldAddr 30 (.tmp 2) 0) (by kernel_rfl) (fun o h=>by simp [execOp,h,t2,go_sem];rfl) rfl (CC.keep (by decide) H.g)
  | 9,_,hr =>
   have v0:a.tmps[29]? = some (.pointer (some ⟨C.b2,0,none⟩)):=H.dep hr 8 29 (by kernel_rfl) ⟨rfl,by decide⟩
   have hc:=CC.cell M.l2 M.c3 H.g
   exact flow_val (X:=.load 9 (.tmp 29)) (by kernel_rfl) (fun o h=>by simp [execOp,h,v0,hc,go_sem];rfl) rfl (CC.keep (by decide) H.g)
  | 10,_,hr=>exact flow_val (X:=.fieldAddr 30 (.tmp 3) 0) (by kernel_rfl) (fun o h=>by simp [execOp,h,t3,go_sem];rfl) rfl (CC.keep (by decide) H.g)
  | 11,_,hr =>
   have v0:a.tmps[31]? = some (.pointer (some ⟨C.b3,0,none⟩)):=H.dep hr 10 31 (by kernel_rfl) ⟨rfl,by decide⟩
   have hc:=CC.cell M.l3 M.c4 H.g
   exact flow_val (X:=.load 9 (.tmp 31)) (by kernel_rfl) (fun o h=>by simp [execOp,h,v0,hc,go_sem];rfl) rfl (CC.keep (by decide) H.g)
  | 12,_,hr =>
   have v0:a.tmps[30]? = some (.string ⟨C.s1.toArray⟩):=H.dep hr 9 30 (by kernel_rfl) ⟨rfl,by decide⟩
   have v1:a.tmps[32]? = some (.string ⟨C.s2.toArray⟩):=H.dep hr 11 32 (by kernel_rfl) ⟨rfl,by decide⟩
   refine flow_call (f:=82) (lb:=#[]) (c:=.func 82) (args:=#[.tmp 30,.tmp 32]) (ts:=#[9,9]) (vs:=#[.string ⟨C.s1.toArray⟩,.string ⟨C.s2.toArray⟩]) (by kernel_rfl) rfl (enters_of Tryz.func82 (by kernel_rfl) rfl) (by simp [Act.eval,v0,v1]) ((cmpStr_any _ _ _).mono ?_)
   rintro e w' ⟨rfl,rfl⟩
   exact ⟨_,(),rfl,rfl,fun _ _=>rfl,CC.keep (by decide) H.g⟩
  | 13,_,hr =>
   have v0:a.tmps[25]? = some (.int .i64 (cmpI C.d1 C.d2)):=H.dep hr 4 25 (by kernel_rfl) ⟨rfl,by decide⟩
   have v1:a.tmps[28]? = some (.int .i64 (cmpI C.k1 C.k2)):=H.dep hr 7 28 (by kernel_rfl) ⟨rfl,by decide⟩
   have v2:a.tmps[33]? = some (.int .i64 (cmpL C.s1 C.s2)):=H.dep hr 12 33 (by kernel_rfl) ⟨rfl,by decide⟩
   have hw:w=C.W0:=by
    rcases H.g with ⟨_,e⟩ | ⟨h,_⟩
    ·exact e
    ·exact absurd h (not_on' (mem_ready.1 hr).1)
   subst hw
   exact flow_val (X:=.buildSlice 114 3 #[(0,.tmp 25),(1,.tmp 28),(2,.tmp 33)]) (w':=C.W0.alloc (.cells C.row 3)) (by kernel_rfl) (fun o h=>by simp [execOp,h,v0,v1,v2,go_sem];exact ⟨rfl,rfl⟩) rfl (.inr ⟨on'_self (by rw [H.sz,hsz];decide),rfl⟩)
  | 14,_,hr =>
   have v0:a.tmps[34]? = some (.slice (some ⟨C.W0.heap.size,0,none⟩) 3 3):=H.dep hr 13 34 (by kernel_rfl) ⟨rfl,by decide⟩
   have hw:w=C.W0.alloc (.cells C.row 3):=by
    rcases H.g with ⟨h,_⟩ | ⟨_,e⟩
    ·exact absurd (dep_of hr (d:=13) (by kernel_rfl)) h
    ·exact e
   refine flow_call (f:=79) (lb:=#[]) (c:=.func 79) (args:=#[.tmp 34]) (ts:=#[114]) (vs:=#[.slice (some ⟨C.W0.heap.size,0,none⟩) 3 3]) (by kernel_rfl) rfl (enters_of Tryz.func79 (by kernel_rfl) rfl) (by simp [Act.eval,v0]) ((or3_any _ _ _ _ _ (by rw [hw];exact Box.new0 C.W0 C.row 3)).mono ?_)
   rintro e w' ⟨rfl,rfl⟩
   exact ⟨_,(),rfl,rfl,fun _ _=>rfl,CC.keep (by decide) H.g⟩
  | 15,_,hr =>
   have v0:a.tmps[35]? = some C.res:=H.dep hr 14 35 (by kernel_rfl) ⟨rfl,by decide⟩
   exact flow_val (X:=.assign (.tmp 35)) (by kernel_rfl) (fun o h=>by simp [execOp,h,v0,go_sem];rfl) rfl (CC.keep (by decide) H.g)
  | n+16,h,_=>exact absurd h (by omega)
 ·rintro ⟨⟩ l W hall hg
  rcases hg with ⟨h,_⟩ | ⟨_,rfl⟩
  ·exact absurd (hall 13 (by rw [hsz];decide)) h
  ·exact hQ
end
theorem fcompare_any (f g:FactP) (pa oa pb ob:Option Addr) (pc oc pd od:Nat) (w:World) :
  Calls Tryz.prog 61 #[.agg (f.cells pa pc oa oc),.agg (g.cells pb pd ob od)] w fun e w'=>e = .returned (.int .i64 (cmpF f g))∧Below w.heap.size w w':=by
 have K1:=(Box.new0 w (f.cells pa pc oa oc) 30).below (below_alloc _ (.cells (g.cells pb pd ob od) 30))
 have K2:=Box.new0 (w.alloc (.cells (f.cells pa pc oa oc) 30)) (g.cells pb pd ob od) 30
 rw [World.size_alloc] at K2
 have HB0:=Lib.hid (((Below.refl _ w).alloc (Nat.le_refl _) (.cells (f.cells pa pc oa oc) 30)).alloc (by simp) (.cells (g.cells pb pd ob od) 30))
 have c1:=(K1.cell 4).trans (show _=some (.int .i64 f.kind) from rfl)
 have c2:=(K2.cell 4).trans (show _=some (.int .i64 g.kind) from rfl)
 have H1:Hid ((f.cells pa pc oa oc)[3]? = some (.int .i64 f.day)∧(f.cells pa pc oa oc)[0]? = some (.string ⟨f.key.toArray⟩)):=⟨rfl,rfl⟩
 have H2:Hid ((g.cells pb pd ob od)[3]? = some (.int .i64 g.day)∧(g.cells pb pd ob od)[0]? = some (.string ⟨g.key.toArray⟩)):=⟨rfl,rfl⟩
 have HE:Hid (cmpF f g=or3 (cmpI f.day g.day) (cmpI (clsOf f.kind) (clsOf g.kind)) (cmpL f.key g.key)):=rfl
 have K1:=Lib.hid K1
 have K2:=Lib.hid K2
 generalize cmpF f g=res at *
 generalize f.cells pa pc oa oc=fc at *
 generalize g.cells pb pd ob od=gc at *
 generalize f.kind=k1 at *
 generalize g.kind=k2 at *
 generalize f.day=d1 at *
 generalize g.day=d2 at *
 generalize f.key=s1 at *
 generalize g.key=s2 at *
 go_enter Tryz.func61,Tryz.ntmps61
 go_wp2_with fail
 refine (class_any _ _).mono ?_
 rintro e w1 ⟨rfl,hb1⟩
 have K1:=Lib.hid (K1.out.below hb1)
 have K2:=Lib.hid (K2.out.below hb1)
 have HB1:=Lib.hid (below_up HB0.out hb1)
 have c2:=(hb1.cell (p:=⟨w.heap.size+1,4,none⟩) (by simp)).trans c2
 clear hb1 c1 HB0
 go_wp2_with fail
 refine (class_any _ _).mono ?_
 rintro e w2 ⟨rfl,hb2⟩
 have K1:=Lib.hid (K1.out.below hb2)
 have K2:=Lib.hid (K2.out.below hb2)
 have HB2:=Lib.hid (below_up HB1.out hb2)
 clear hb2 c2 HB1
 generalize clsOf k1=q1 at *
 generalize clsOf k2=q2 at *
 go_wp2_with fail
 refine cmp_region (C:=⟨w2.drewN 1,w.heap.size,w.heap.size+1,d1,d2,q1,q2,s1,s2⟩) ⟨rfl,rfl,rfl,rfl,rfl,K1.out.1,K2.out.1,(K1.out.cell 3).trans H1.out.1,(K2.out.cell 3).trans H2.out.1,(K1.out.cell 0).trans H1.out.2,(K2.out.cell 0).trans H2.out.2⟩ rfl rfl rfl ?_
 simp only [layT,cmpDs,List.foldl,List.setIfInBounds_toArray,List.set_cons_zero,List.set_cons_succ,CC.val,CC.res]
 go_wp2
 go_ret
 exact ⟨by rw [HE.out];rfl,(below_drewN HB2.out 1).alloc (Nat.le_trans HB2.out.size (Nat.le_refl _)) _⟩
end
section
open Go Go.RowKit Num Go.Maps
noncomputable def vcOps:Array Oper:=(Tryz.f38.body.bind (regIn 16)).getD #[]
def vcDs:List (Nat × Nat):=[(0,32),(1,33),(2,34),(3,35),(4,36),(5,37),(6,38),(7,39),(8,40),(9,41),(10,42),(11,43)]
structure VC where
 W0:World
 b:Nat
 off:Nat
 n:Nat
 c:Nat
 b5:Nat
 k:Nat
 gb:Bool
 pc:Array Value
 fc:Array Value
 r:Int
 sl:Value
def VC.val (C:VC) (_:Unit):Nat→Value
 | 0 => .int .i64 (C.k:Int)
 | 1 => .bool C.gb
 | 2 => .bool C.gb
 | 3=>gv C.gb (C.sl)
 | 4=>gv C.gb (.int .i64 (C.k:Int))
 | 5=>gv C.gb (.int .i64 ((C.k:Int) - 1))
 | 6=>gv C.gb (.pointer (some ⟨C.b,C.off+(C.k - 1) * 21,none⟩))
 | 7=>gv C.gb (.agg C.pc)
 | 8=>gv C.gb (.agg C.fc)
 | 9=>gv C.gb (.int .i64 C.r)
 | 10=>gv C.gb (.bool (decide (0≤C.r)))
 | _ => .bool (C.gb && decide (0≤C.r))
def VC.g (C:VC) (_:Unit) (_:Array Bool) (W:World):Prop:=Below C.W0.heap.size C.W0 W
structure VM (C:VC) (t0:Array Value):Prop where
 sz:t0.size=48
 t0':t0[0]? = some C.sl
 t4:t0[4]? = some (.int .i64 (C.k:Int))
 t5:t0[5]? = some (.pointer (some ⟨C.b5,0,none⟩))
 gb:C.gb=decide (0 < C.k)
 lt:C.k < C.n
 small:C.n≤1000000
 sl:C.gb=true→C.sl = .slice (some ⟨C.b,C.off,none⟩) C.n C.c
 hb:C.gb=true→C.b < C.W0.heap.size
 pcs:C.gb=true→(Tryz.prog.info? 30).map (·.size)=some C.pc.size
 pc:C.gb=true→∀ j v,C.pc.toList[j]? = some v→C.W0.cell? ⟨C.b,C.off+(C.k - 1) * 21+j,none⟩=some v
 fcs:(Tryz.prog.info? 30).map (·.size)=some C.fc.size
 fc:Box C.W0 C.b5 C.fc 30
 cmp:C.gb=true→∀ W,Calls Tryz.prog 61 #[.agg C.pc,.agg C.fc] W fun e w'=>e = .returned (.int .i64 C.r)∧Below W.heap.size W w'
theorem run_load_agg {P:Program} {o:Oper} {a:Act} {w:World} {ty:TypeId} {x:Operand} (ho:o.op = .load ty x) {b off:Nat} {cs:Array Value} {d:TypeDesc} (hx:a.eval x = .pointer (some ⟨b,off,none⟩)) (hc:∀ j v,cs.toList[j]? = some v→w.cell? ⟨b,off+j,none⟩=some v)
  (hu:P.underlying ty=some d) (hd:(match d with | .struct _ | .array _ _=>true | _=>false)=true) (hi:(P.info? ty).map (·.size)=some cs.size):(execOp a.eval o).run P w = .ok (.value (.agg cs)) w:=by
 unfold execOp
 simp only [ho,hx,Instr.loadAt,Instr.sureAddr,Sem.run_bind,Sem.run_pure,Result.andThen_ok,run_loadVar_at w b off ty cs d hc hu hd hi]
theorem box_list {w:World} {b:Nat} {cs:Array Value} {T:TypeId} (h:Box w b cs T):∀ j v,cs.toList[j]? = some v→w.cell? ⟨b,0+j,none⟩=some v:=by
 intro j v hv
 rw [Nat.zero_add,h.cell j,← Array.getElem?_toList]
 exact hv
section
variable {C:VC} {t0:Array Value} {Q:Exit→Act→World→Prop}
theorem vc_region (M:VM C t0) {a:Act} {w:World} (hdf:a.defers=[]) (ht:a.tmps=t0) (hw:w.drewN 1=C.W0)
  (hQ:∀ W,Below C.W0.heap.size C.W0 W→Q .normal { tmps:=layT (C.val ()) vcDs t0,defers:=[] } W):(Code.region 16 vcOps true).wp Tryz.prog Q a w:=by
 have hsz:vcOps.size=12:=by kernel_rfl
 refine flow_region (ds:=vcDs) (val:=C.val) (G:=C.g) (by kernel_rfl) (by kernel_rfl) (by decide) (fun p hp => ?_) (by kernel_rfl) ?_ (γ:=()) hdf ht (by rw [hw];exact Below.refl _ _) (fun _ _ W _ hg=>hQ W hg)
 ·rw [M.sz]
  have:∀ p,p∈vcDs→p.2 < 48:=by decide
  exact this p hp
 ·intro γ l a w i H hr
  cases γ
  have hi:i < 12:=by
   obtain ⟨_,o,ho,_⟩:=mem_ready.1 hr
   have:=(Array.getElem?_eq_some_iff.1 ho).1
   rw [hsz] at this
   exact this
  have t0':=H.low (s:=0) (by decide) M.t0'
  have t4:=H.low (s:=4) (by decide) M.t4
  have t5:=H.low (s:=5) (by decide) M.t5
  have hb:Below C.W0.heap.size C.W0 w:=H.g
  have hlt:=M.lt
  have hsm:=M.small
  match i,hi,hr with
  | 0,_,hr=>exact flow_val (X:=.move (.tmp 4)) (by kernel_rfl) (fun o h=>by simp [execOp,h,t4,go_sem];rfl) rfl hb
  | 1,_,hr =>
   have v0:a.tmps[32]? = some (.int .i64 (C.k:Int)):=H.dep hr 0 32 (by kernel_rfl) ⟨rfl,by decide⟩
   refine flow_val (X:=.binOp .gtr 3 (.tmp 32) (.const (.int .i64 0)) 3) (v:=.bool C.gb) (by kernel_rfl) (fun o h => ?_) rfl hb
   rw [M.gb]
   simp [execOp,h,v0,go_sem]
  | 2,_,hr =>
   have v0:a.tmps[33]? = some (.bool C.gb):=H.dep hr 1 33 (by kernel_rfl) ⟨rfl,by decide⟩
   exact flow_val (X:=.move (.tmp 33)) (by kernel_rfl) (fun o h=>by simp [execOp,h,v0,go_sem];rfl) rfl hb
  | 3,_,hr =>
   have hv:a.tmps[34]? = some (.bool C.gb):=H.dep hr 2 34 (by kernel_rfl) ⟨rfl,by decide⟩
   exact flow_guard (X:=.move (.tmp 0)) (v:=C.sl) (gb:=C.gb) (by kernel_rfl) (by kernel_rfl) (j:=2) (s:=34) (by kernel_rfl) hv rfl (fun hgb o h=>by simp [execOp,h,t0',go_sem]) hb
  | 4,_,hr =>
   have hv:a.tmps[34]? = some (.bool C.gb):=H.dep hr 2 34 (by kernel_rfl) ⟨rfl,by decide⟩
   exact flow_guard (X:=.move (.tmp 4)) (v:=.int .i64 (C.k:Int)) (gb:=C.gb) (by kernel_rfl) (by kernel_rfl) (j:=2) (s:=34) (by kernel_rfl) hv rfl (fun hgb o h=>by simp [execOp,h,t4,go_sem]) hb
  | 5,_,hr =>
   have hv:a.tmps[34]? = some (.bool C.gb):=H.dep hr 2 34 (by kernel_rfl) ⟨rfl,by decide⟩
   have v4:a.tmps[36]? = some (if C.gb=true then .int .i64 (C.k:Int) else undef):=H.dep hr 4 36 (by kernel_rfl) ⟨rfl,by decide⟩
   exact flow_guard (X:=.binOp .sub 3 (.tmp 36) (.const (.int .i64 1)) 3) (v:=.int .i64 ((C.k:Int) - 1)) (gb:=C.gb) (by kernel_rfl) (by kernel_rfl) (j:=2) (s:=34) (by kernel_rfl) hv rfl (fun hgb o h=>by rw [hgb,if_pos rfl] at v4;simp [execOp,h,v4,go_sem];rw [IntKind.wrap_i64];omega) hb
  | 6,_,hr =>
   have hv:a.tmps[34]? = some (.bool C.gb):=H.dep hr 2 34 (by kernel_rfl) ⟨rfl,by decide⟩
   have v3:a.tmps[35]? = some (if C.gb=true then C.sl else undef):=H.dep hr 3 35 (by kernel_rfl) ⟨rfl,by decide⟩
   have v5:a.tmps[37]? = some (if C.gb=true then .int .i64 ((C.k:Int) - 1) else undef):=H.dep hr 5 37 (by kernel_rfl) ⟨rfl,by decide⟩
   exact flow_guard (X:=.indexAddr 22 (.tmp 35) (.tmp 37)) (v:=.pointer (some ⟨C.b,C.off+(C.k - 1) * 21,none⟩)) (gb:=C.gb) (by kernel_rfl) (by kernel_rfl) (j:=2) (s:=34) (by kernel_rfl) hv rfl (fun hgb o h=>by rw [hgb,if_pos rfl] at v3 v5;rw [M.sl hgb] at v3;have hp:0 < C.k:=(by have:=M.gb;rw [hgb] at this;simpa using this.symm);have e:((C.k:Int) - 1)=((C.k - 1:Nat):Int):=(by omega);rw [e] at v5;have hl2:C.k - 1 < C.n:=(by omega);simp [execOp,h,v3,v5,go_sem,hl2]) hb
  | 7,_,hr =>
   have hv:a.tmps[34]? = some (.bool C.gb):=H.dep hr 2 34 (by kernel_rfl) ⟨rfl,by decide⟩
   have v6:a.tmps[38]? = some (if C.gb=true then .pointer (some ⟨C.b,C.off+(C.k - 1) * 21,none⟩) else undef):=H.dep hr 6 38 (by kernel_rfl) ⟨rfl,by decide⟩
   refine flow_guard (X:=.load 30 (.tmp 38)) (v:=.agg C.pc) (gb:=C.gb) (by kernel_rfl) (by kernel_rfl) (j:=2) (s:=34) (by kernel_rfl) hv rfl (fun hgb o h => ?_) hb
   rw [hgb,if_pos rfl] at v6
   exact run_load_agg h (ev' v6) (fun j v hj=>(hb.cell (p:=⟨C.b,C.off+(C.k - 1) * 21+j,none⟩) (M.hb hgb)).trans (M.pc hgb j v hj)) Tryz.underlying30 rfl (M.pcs hgb)
  | 8,_,hr =>
   have hv:a.tmps[34]? = some (.bool C.gb):=H.dep hr 2 34 (by kernel_rfl) ⟨rfl,by decide⟩
   refine flow_guard (X:=.load 30 (.tmp 5)) (v:=.agg C.fc) (gb:=C.gb) (by kernel_rfl) (by kernel_rfl) (j:=2) (s:=34) (by kernel_rfl) hv rfl (fun hgb o h => ?_) hb
   exact run_load_agg h (ev' t5) (box_list (M.fc.below hb)) Tryz.underlying30 rfl M.fcs
  | 9,_,hr =>
   have hv:a.tmps[34]? = some (.bool C.gb):=H.dep hr 2 34 (by kernel_rfl) ⟨rfl,by decide⟩
   have v7:a.tmps[39]? = some (if C.gb=true then .agg C.pc else undef):=H.dep hr 7 39 (by kernel_rfl) ⟨rfl,by decide⟩
   have v8:a.tmps[40]? = some (if C.gb=true then .agg C.fc else undef):=H.dep hr 8 40 (by kernel_rfl) ⟨rfl,by decide⟩
   refine flow_guardCall (f:=61) (lb:=#[]) (c:=.func 61) (args:=#[.tmp 39,.tmp 40]) (ts:=#[30,30]) (vs:=#[.agg C.pc,.agg C.fc]) (gb:=C.gb) (by kernel_rfl) (by kernel_rfl) (j:=2) (s:=34) (by kernel_rfl) hv rfl (enters_of Tryz.func61 (by kernel_rfl) rfl) (fun h=>by simp [VC.val,gv,h]) (fun _=>hb) (fun h=>by rw [h,if_pos rfl] at v7 v8;simp [Act.eval,v7,v8]) (fun h=>(M.cmp h _).mono ?_)
   rintro e w' ⟨rfl,hb'⟩
   exact ⟨_,(),rfl,by simp [VC.val,gv,h],fun _ _=>rfl,below_up hb hb'⟩
  | 10,_,hr =>
   have hv:a.tmps[34]? = some (.bool C.gb):=H.dep hr 2 34 (by kernel_rfl) ⟨rfl,by decide⟩
   have v9:a.tmps[41]? = some (if C.gb=true then .int .i64 C.r else undef):=H.dep hr 9 41 (by kernel_rfl) ⟨rfl,by decide⟩
   exact flow_guard (X:=.binOp .geq 3 (.tmp 41) (.const (.int .i64 0)) 3) (v:=.bool (decide (0≤C.r))) (gb:=C.gb) (by kernel_rfl) (by kernel_rfl) (j:=2) (s:=34) (by kernel_rfl) hv rfl (fun hgb o h=>by rw [hgb,if_pos rfl] at v9;simp [execOp,h,v9,go_sem]) hb
  | 11,_,hr =>
   have hv:a.tmps[34]? = some (.bool C.gb):=H.dep hr 2 34 (by kernel_rfl) ⟨rfl,by decide⟩
   have v10:a.tmps[42]? = some (if C.gb=true then .bool (decide (0≤C.r)) else undef):=H.dep hr 10 42 (by kernel_rfl) ⟨rfl,by decide⟩
   refine flow_val (X:=.pick (.tmp 34) (.tmp 42) (.const (.bool false))) (v:=.bool (C.gb && decide (0≤C.r))) (by kernel_rfl) (fun o h => ?_) rfl hb
   cases hgb:C.gb with
   | true=>rw [hgb,if_pos rfl] at v10;rw [hgb] at hv;simp [execOp,h,hv,v10,go_sem]
   | false=>rw [hgb] at hv;simp [execOp,h,hv,go_sem]
  | n+12,h,_=>exact absurd h (by omega)
end
theorem wpList_lookup_seenB {ops:Array Oper} {rest:List Oper} {o:Oper} {a:Act} {Q:Exit→Act→World→Prop} (w:World)
  (hg:o.guard=none) (m x:Operand) (hop:o.op=Op.lookup 51 m x false) (B n:Nat) (ids:List (List UInt8)) (hm:a.eval m = .map (some B)) (hown:Seen w B n ids)
  (l:List UInt8) (hl:l.length≤maxLen) (hx:a.eval x = .string ⟨l.toArray⟩) (r:Bool) (hr:ids.contains l=r)
  (hK:wpList Tryz.prog ops Q rest (a.put o.dst (.bool r)) w):wpList Tryz.prog ops Q (o :: rest) a w:=by
 subst hr
 exact wpList_lookup_seen w hg m x hop B n ids hm hown l hl hx hK
def prevF (fs:List FactP) (k:Nat):Option FactP:=if k=0 then none else fs[k - 1]?
theorem viewCheck_any (xs:List FactV) (a:Option Addr) (c:Nat) (w:World) (hE:Env w) (hn:xs.length≤1000000) (hr:Facts w a xs) (hok:∀ x,x∈xs→x.ok) :
  Calls Tryz.prog 38 #[.slice a xs.length c] w fun e w'=>e = .returned (.int .i64 (vcheck (xs.map FactV.f)))∧Below w.heap.size w w':=by
 obtain ⟨res,hres⟩:∃ res,res=vcheck (xs.map FactV.f):=⟨_,rfl⟩
 rw [← hres]
 unfold vcheck at hres
 rw [List.length_map] at hres
 have HE:=Lib.hid hE
 have HR:=Lib.hid hr
 have HOK:=Lib.hid hok
 by_cases hbig:1000 < xs.length
 ·rw [if_pos hbig] at hres
  have HV:=Lib.hid hres
  clear hres hE hr hok
  generalize xs.length=n at *
  go_enter Tryz.func38,Tryz.ntmps38
  go_wp2
  go_ret
  exact ⟨by rw [HV.out];rfl,Below.refl _ _⟩
 ·rw [if_neg hbig] at hres
  have HV:Hid (res=vgo (((xs.map FactV.f).take 0).map (·.key)) (prevF (xs.map FactV.f) 0) ((xs.map FactV.f).drop 0)):=hres
  have hmk:=@run_makeMap Tryz.prog
  clear hres hE hr hok
  go_enter Tryz.func38,Tryz.ntmps38
  go_wp2_with fail
  go_loopw [13] (fun iv wr => ∃ k:Nat,k≤xs.length∧iv = .int .i64 k∧Hid (res=vgo (((xs.map FactV.f).take k).map (·.key)) (prevF (xs.map FactV.f) k) ((xs.map FactV.f).drop k))∧Hid (Seen wr w.heap.size k (((xs.map FactV.f).take k).map (·.key)))∧Hid (Below w.heap.size w wr)) (fun iv _=>xs.length - (intOf iv).toNat)
  case atStart=>exact ⟨0,Nat.zero_le _,rfl,HV,seen_made w,below_alloc w _⟩
  case round =>
   clear HV
   obtain ⟨k,hk,rfl,HS,HM,HB⟩:=hrel
   by_cases hlt:k < xs.length
   ·obtain ⟨x,hx⟩:∃ x,xs[k]? = some x:=⟨xs[k],List.getElem?_eq_getElem hlt⟩
    obtain ⟨b,off,rfl,hbl,hc⟩:=HR.out.1.addr (k:=k) (cs:=x.cells) (by rw [List.getElem?_map,hx];rfl)
    have hxm:=List.mem_of_getElem? hx
    have HX:=Lib.hid (And.intro (HOK.out x hxm) (HR.out.2 x hxm))
    have hfk:(xs.map FactV.f)[k]? = some x.f:=by rw [List.getElem?_map,hx];rfl
    have HS2:=Lib.hid (HS.out.trans (vgo_at hfk))
    have HT:Hid (((xs.map FactV.f).take (k+1)).map (·.key)=((xs.map FactV.f).take k).map (·.key) ++ [x.f.key]):=by show _=_;rw [List.take_add_one,hfk,List.map_append];rfl
    have HKL:Hid (x.f.key.length≤maxLen):=Nat.le_trans (HOK.out x hxm).small.key (by decide)
    obtain ⟨pv,hpv⟩:∃ pv:FactV,0 < k→xs[k - 1]? = some pv:=by
     cases k with
     | zero=>exact ⟨x,fun h=>absurd h (by decide)⟩
     | succ m=>exact ⟨xs[m],fun _=>List.getElem?_eq_getElem (by omega)⟩
    have HBAD:Hid ((if k=0 then none else (xs.map FactV.f)[k - 1]?).any (fun p=>decide (0≤cmpF p x.f))=(decide (0 < k) && decide (0≤cmpF pv.f x.f))):=by
     show _=_
     by_cases h0:k=0
     ·subst h0;rfl
     ·have:=hpv (by omega)
      rw [if_neg h0,List.getElem?_map,this]
      simp [show 0 < k by omega]
    have HPC:Hid (decide (0 < k)=true→∀ j v,pv.arr.toList[j]? = some v→w.cell? ⟨b,off+(k - 1) * 21+j,none⟩=some v):=fun h j v hv=>by
     obtain ⟨b',off',ea,_,hc'⟩:=HR.out.1.addr (k:=k - 1) (cs:=pv.cells) (by rw [List.getElem?_map,hpv (by simpa using h)];rfl)
     injection ea with ea
     injection ea with e1 e2
     subst e1 e2
     exact hc' j v hv
    have HPS:Hid ((Tryz.prog.info? 30).map (·.size)=some pv.arr.size):=factSize pv.f pv.pa pv.oa pv.pc pv.oc
    have HCMP:Hid (∀ W,Calls Tryz.prog 61 #[.agg pv.arr,.agg x.arr] W fun e w'=>e = .returned (.int .i64 (cmpF pv.f x.f))∧Below W.heap.size W w'):=fun W=>fcompare_any pv.f x.f pv.pa pv.oa x.pa x.oa pv.pc pv.oc x.pc x.oc W
    have HC:Hid (∀ j v,x.arr.toList[j]? = some v→wr.cell? ⟨b,off+k * 21+j,none⟩=some v):=fun j v hv=>(HB.out.cell (p:=⟨b,off+k * 21+j,none⟩) hbl).trans (hc j v hv)
    have HSZ:Hid ((Tryz.prog.info? 30).map (·.size)=some x.arr.size):=factSize x.f x.pa x.oa x.pc x.oc
    have HONE:=Lib.hid (cells_one x)
    have HCK:Hid (∀ W,Below w.heap.size w W→Calls Tryz.prog 32 #[.agg x.arr] W fun e w'=>e = .returned (.int .i64 (fcheck x.f))∧Below W.heap.size W w'):=fun W hbw=>factCheck_any x.f x.pa x.oa x.pc x.oc W (HE.out.below hbw) HX.out.1.small HX.out.1.cap (HX.out.2.below hbw)
    have HST:Hid (x.arr[0]? = some (.string ⟨x.f.key.toArray⟩)∧x.arr[1]? = some (.int .i64 x.f.stamp)∧x.arr[2]? = some (.bool x.f.cancelled)):=⟨rfl,rfl,rfl⟩
    have hsz21:x.arr.size=21:=rfl
    clear HS hc hpv hfk hxm
    have HEQ:Hid (vgo (((xs.map FactV.f).take (k+1)).map (·.key)) (if k+1=0 then none else (xs.map FactV.f)[k+1 - 1]?) ((xs.map FactV.f).drop (k+1))=vgo (((xs.map FactV.f).take (k+1)).map (·.key)) (prevF (xs.map FactV.f) (k+1)) ((xs.map FactV.f).drop (k+1))):=rfl
    generalize vgo (((xs.map FactV.f).take (k+1)).map (·.key)) (if k+1=0 then none else (xs.map FactV.f)[k+1 - 1]?) ((xs.map FactV.f).drop (k+1))=nxt at *
    generalize x.arr=fc at *
    generalize pv.arr=pc at *
    generalize cmpF pv.f x.f=r at *
    have KBr:Hid (Box ((wr.alloc (.cells Z21 30)).setRow wr.heap.size fc) wr.heap.size fc 30):=⟨by simp [World.setRow],setRow_heap _ _ _ _ _ _ (heap_alloc_new wr (.cells Z21 30))⟩
    have hbrr:Below wr.heap.size wr ((wr.alloc (.cells Z21 30)).setRow wr.heap.size fc):=below_setRow (below_alloc _ _) (Nat.le_refl _) fc
    have HBr:Hid (Below w.heap.size w ((wr.alloc (.cells Z21 30)).setRow wr.heap.size fc)):=below_up HB.out hbrr
    have HMr:=Lib.hid (HM.out.below hbrr)
    have HS21:Hid (Z21.size=fc.size):=hsz21.symm
    have HNEW:=Lib.hid (heap_alloc_new wr (.cells Z21 30))
    clear hsz21 hbrr HM
    go_wp2_with (first | (refine wpList_load_at rfl 30 _ rfl b (off+k * 21) rfl fc _ HC.out Tryz.underlying30 rfl HSZ.out ?_) | (refine wpList_store_row rfl 30 _ _ rfl wr.heap.size fc rfl rfl 30 Z21 HNEW.out HSZ.out HS21.out HONE.out ?_) | (refine wpList_load_row rfl 30 _ rfl wr.heap.size rfl 30 fc (0,0) _ KBr.out.2 Tryz.underlying30 rfl HSZ.out ?_))
    refine (HCK.out _ HBr.out).mono ?_
    rintro e w2 ⟨rfl,hb2⟩
    have HB2:=Lib.hid (below_up HBr.out hb2)
    have KB2:=Lib.hid (KBr.out.below hb2)
    have HM2:=Lib.hid (HMr.out.below hb2)
    have c0:=(KB2.out.cell 0).trans HST.out.1
    have c1:=(KB2.out.cell 1).trans HST.out.2.1
    have c2:=(KB2.out.cell 2).trans HST.out.2.2
    clear hb2 HC HONE HCK HST HS21 HNEW KBr HBr HMr
    generalize fcheck x.f=fe at *
    by_cases he:fe=0
    ·subst he
     have HS3:=Lib.hid (HS2.out.trans (if_neg (by simp)))
     clear HS2
     cases hca:x.f.cancelled with
     | true =>
      rw [hca] at c2
      have HV2:Hid (res=19):=by show _=_;rw [HS3.out,if_pos hca]
      clear HS3
      go_wp2_with fail
      go_ret
      exact ⟨by rw [HV2.out];rfl,HB2.out⟩
     | false =>
      rw [hca] at c2
      have HS4:=Lib.hid (HS3.out.trans (if_neg (by rw [hca];decide)))
      clear HS3 hca
      by_cases hst:x.f.stamp=0
      ·rw [hst] at c1
       have HS5:=Lib.hid (HS4.out.trans (if_neg (by simpa using hst)))
       clear HS4 hst
       cases hct:(((xs.map FactV.f).take k).map (·.key)).contains x.f.key with
       | true =>
        have HV2:Hid (res=5):=by show _=_;rw [HS5.out,if_pos hct]
        have HCT:=Lib.hid hct
        clear HS5 hct
        go_wp2_with (first | (at_lookup;refine wpList_lookup_seenB _ rfl _ _ rfl w.heap.size k _ rfl HM2.out x.f.key HKL.out rfl true HCT.out ?_;simp only [pS]) | go_in)
        go_ret
        exact ⟨by rw [HV2.out];rfl,HB2.out⟩
       | false =>
        have HS6:=Lib.hid (HS5.out.trans (if_neg (by rw [hct];decide)))
        have HCT:=Lib.hid hct
        have HS7:Hid (res=if (decide (0 < k) && decide (0≤r))=true then 8 else nxt):=by show _=_;rw [HS6.out,HBAD.out]
        clear HS5 HS6 hct
        go_wp2_with (first | (at_lookup;refine wpList_lookup_seenB _ rfl _ _ rfl w.heap.size k _ rfl HM2.out x.f.key HKL.out rfl false HCT.out ?_;simp only [pS]) | go_in)
        refine vc_region (C:=⟨w2.drewN 1,b,off,xs.length,c,wr.heap.size,k,decide (0 < k),pc,fc,r,.slice (some ⟨b,off,none⟩) xs.length c⟩) ⟨rfl,rfl,rfl,rfl,rfl,hlt,hn,fun _=>rfl,fun _=>Nat.lt_of_lt_of_le hbl HB2.out.size,fun _=>HPS.out,fun h j v hj=>(HB2.out.cell (p:=⟨b,off+(k - 1) * 21+j,none⟩) hbl).trans (HPC.out h j v hj),HSZ.out,KB2.out,fun _=>HCMP.out⟩ rfl rfl rfl ?_
        intro w3 hb3
        have hb3':Below w2.heap.size w2 w3:=(below_drewN (Below.refl _ w2) 1).trans hb3
        have HB3:=Lib.hid (below_up HB2.out hb3')
        have KB3:=Lib.hid (KB2.out.below hb3')
        have HM3:=Lib.hid (HM2.out.below hb3')
        have c0:=(hb3'.cell (p:=⟨wr.heap.size,0,none⟩) KB2.out.1).trans c0
        clear hb3 hb3' c1 c2 HPS HPC HCMP HSZ HB2 KB2 HM2 HBAD HCT
        simp only [layT,vcDs,List.foldl,List.setIfInBounds_toArray,List.set_cons_zero,List.set_cons_succ,VC.val]
        generalize (decide (0 < k) && decide (0≤r))=bad at *
        generalize decide (0 < k)=gk at *
        cases bad with
        | true =>
         have HV2:Hid (res=8):=HS7.out
         go_wp2_with fail
         go_ret
         exact ⟨by rw [HV2.out];rfl,HB3.out⟩
        | false =>
         have HV2:Hid (res=vgo (((xs.map FactV.f).take (k+1)).map (·.key)) (prevF (xs.map FactV.f) (k+1)) ((xs.map FactV.f).drop (k+1))):=HS7.out.trans HEQ.out
         clear HS7 HEQ
         go_wp2_with (first | (at_mapUpdate;refine wpList_store_seen _ rfl _ _ _ rfl w.heap.size k _ rfl HM3.out (by unfold maxLen;omega) x.f.key HKL.out rfl rfl ?_;intro w4 hS4 hg4) | go_in)
         go_roundw
         case rel=>exact ⟨k+1,by omega,by go_num,HV2,by rw [HT.out];exact hS4,HB3.out.grown hg4 HB3.out.size (fun j hj=>by cases hj;exact Nat.le_refl _)⟩
         case measure=>simp [intOf];omega
      ·have HV2:Hid (res=1):=by show _=_;rw [HS4.out,if_pos hst]
       generalize x.f.stamp=st at *
       have hst':(st == 0)=false:=by simpa using hst
       clear HS4
       go_wp2_with fail
       go_ret
       exact ⟨by rw [HV2.out];rfl,HB2.out⟩
    ·have HV2:Hid (res=fe):=by show _=_;rw [HS2.out,if_pos he]
     have he':(fe == 0)=false:=by simpa using he
     clear HS2
     go_wp2_with fail
     go_ret
     exact ⟨by rw [HV2.out];rfl,HB2.out⟩
   ·obtain rfl:k=xs.length:=by omega
    have HV2:Hid (res=0):=by show _=_;rw [HS.out,List.drop_eq_nil_of_le (by simp)];rfl
    clear HS
    go_wp2_with fail
    go_ret
    exact ⟨by rw [HV2.out];rfl,HB.out⟩
end
end Go.Proofs.YtbcebibkpfklnaaGreatDoor
