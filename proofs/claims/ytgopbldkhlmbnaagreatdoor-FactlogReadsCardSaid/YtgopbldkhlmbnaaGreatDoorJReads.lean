/- First Collect Reads Replaced -/
import Derived.Test.YtgopbldkhlmbnaaGreatDoorJWith
import Derived.Test.YtgopbldkhlmbnaaGreatDoorJLog
import Derived.Test.YtgopbldkhlmbnaaGreatDoorJText
import Derived.RangeFuncFrom
import Derived.RangeFuncBox
import Derived.RangeFuncWrites
import Derived.Maps.AppendAt
import Derived.OwnWalk
set_option maxHeartbeats 16000000
set_option maxRecDepth 100000
namespace Go.Proofs.YtgopbldkhlmbnaaGreatDoor
section
open Go Go.RowKit Go.Shelf Num
attribute [local go_sem] Oper.semAt_some
def encN (k:Nat):Array Value:=#[.int .i64 (k:Int)]
abbrev Gives (n:Nat) (g:Nat) (lb:Array Value) (s:List Nat) (N:Nat) (w:World):Prop :=
 SeqStopsK Fence.wide n Tryz.prog g lb encN (Below w.heap.size) (fun ys=>ys=s) (fun p => ∃ q x r,s=q ++ x :: r∧p=q ++ [x]) N w
theorem grownBy_drewN (W:World) (k:Nat):W.grownBy (W.drewN k) none:=by
 refine ⟨?_,?_,?_,?_,fun i hi _ => ?_⟩
 all_goals first | rfl | exact Nat.le_refl _
theorem gives_fwd (n:Nat) (xs:List FactV) (a:Option Addr) (c bl bk bs:Nat) (key:List UInt8) (w:World) (hl:LogAt w a c xs) (h1:Box w bl #[.slice a xs.length c] 22) (h2:Box w bk #[.string ⟨key.toArray⟩] 9) (h3:Box w bs #[.int .i64 1] 3) :
  Gives n 84 #[.pointer (some ⟨bs,0,none⟩),.pointer (some ⟨bl,0,none⟩),.pointer (some ⟨bk,0,none⟩)] (fwd (xs.map FactV.f) key xs.length 0) xs.length w:=by
 intro l J Jx W hW hJ hJx hY h0
 refine (with1_fwd n l w.heap.size xs a c bl bk bs key J Jx w W hY (fun pre W k hj=>hJ pre W _ none hj (grownBy_drewN W k) (fun r e=>by cases e)) rfl hW hl h1 h2 h3 h0).mono ?_
 rintro e W' ⟨hv,h | ⟨pre,x,r,h,hx⟩⟩
 ·exact ⟨hv,.inl ⟨_,rfl,h⟩⟩
 ·exact ⟨hv,.inr ⟨_,⟨pre,x,r,h,rfl⟩,hx⟩⟩
theorem gives_bwd (n:Nat) (xs:List FactV) (a:Option Addr) (c bl bk bs:Nat) (key:List UInt8) (w:World) (hl:LogAt w a c xs) (h1:Box w bl #[.slice a xs.length c] 22) (h2:Box w bk #[.string ⟨key.toArray⟩] 9) (h3:Box w bs #[.int .i64 (-1)] 3) :
  Gives n 84 #[.pointer (some ⟨bs,0,none⟩),.pointer (some ⟨bl,0,none⟩),.pointer (some ⟨bk,0,none⟩)] (bwd (xs.map FactV.f) key xs.length) xs.length w:=by
 intro l J Jx W hW hJ hJx hY h0
 refine (with1_bwd n l w.heap.size xs a c bl bk bs key J Jx w W hY (fun pre W k hj=>hJ pre W _ none hj (grownBy_drewN W k) (fun r e=>by cases e)) rfl hW hl h1 h2 h3 h0).mono ?_
 rintro e W' ⟨hv,h | ⟨pre,x,r,h,hx⟩⟩
 ·exact ⟨hv,.inl ⟨_,rfl,h⟩⟩
 ·exact ⟨hv,.inr ⟨_,⟨pre,x,r,h,rfl⟩,hx⟩⟩
def firstV:List Nat→Value
 | [] => .tuple #[.int .i64 0,.bool false]
 | x :: _ => .tuple #[.int .i64 (x:Int),.bool true]
theorem first_in (n:Nat) (hn:3≤n) (g:Nat) (lb:Array Value) (s:List Nat) (N:Nat) (w:World) (eg:∀ args w,(callFunc g args).run Tryz.prog w = .ok (.enter g args) w) (hseq:Gives (n - 1) g lb s N w) :
  CallsIn Fence.wide n Tryz.prog 60 #[.func (.func g) #[] lb] w fun e W'=>e = .returned (firstV s)∧Below w.heap.size w W':=by
 have h1:1≤n:=by omega
 refine callsIn_of_wp_marks Tryz.func60 rfl trivial ?_ rfl
 simp only [Tryz.ntmps60,List.size_toArray,List.length_cons,List.length_nil,Nat.reduceAdd,Nat.reduceSub,Array.replicate_succ,Array.replicate_zero,List.push_toArray,List.append_toArray,List.nil_append,List.cons_append]
 gi_wp2
 have B0:=(Box.new0 w #[.int .i64 0] 3).below (below_alloc _ (.cells #[.bool false] 4))
 have B1:=Box.new0 (w.alloc (.cells #[.int .i64 0] 3)) #[.bool false] 4
 rw [World.size_alloc] at B1
 have hB0:Below w.heap.size w ((w.alloc (.cells #[.int .i64 0] 3)).alloc (.cells #[.bool false] 4)):=((Below.refl _ w).alloc (Nat.le_refl _) _).alloc (by simp) _
 refine wpIn_rangeFunc_ownF (F:=Fence.wide) rfl h1 (gf:=g) (lb:=lb) rfl trivial eg hseq belowK_t (belowK_b (by simp;omega)) hB0 (fun _=>rfl)
  (fun pre W=>(pre=[]∧W.cell? ⟨w.heap.size,0,none⟩=some (.int .i64 0)∧W.frozen? ⟨w.heap.size,0,none⟩=false∧W.cell? ⟨w.heap.size+1,0,none⟩=some (.bool false)∧W.frozen? ⟨w.heap.size+1,0,none⟩=false)∧Below w.heap.size w W)
  (fun c pre W=>(c = .ret∧∃ x:Nat,pre=[x]∧W.cell? ⟨w.heap.size,0,none⟩=some (.int .i64 (x:Int))∧W.cell? ⟨w.heap.size+1,0,none⟩=some (.bool true))∧Below w.heap.size w W)
  (OwnFrom.and (Own.from (fun s A B row hs hg hr=>⟨hs.1,cell_kept hs.2.1 hg hr,(frozen_kept hs.2.1 hg hr).trans hs.2.2.1,cell_kept hs.2.2.2.1 hg hr,(frozen_kept hs.2.2.2.1 hg hr).trans hs.2.2.2.2⟩) _) (ownFrom_below (Nat.le_refl _) (by simp;omega)))
  (fun c=>OwnFrom.and (Own.from (fun s A B row hs hg hr=>⟨hs.1,by obtain ⟨x,h1,h2,h3⟩:=hs.2;exact ⟨x,h1,cell_kept h2 hg hr,cell_kept h3 hg hr⟩⟩) _) (ownFrom_below (Nat.le_refl _) (by simp;omega)))
  ⟨⟨rfl,B0.cell 0,frozen_at B0.2 0,B1.cell 0,frozen_at B1.2 0⟩,hB0⟩
  (fun x => { tmps:=#[.func (.func g) #[] lb,undef,.pointer (some ⟨w.heap.size,0,none⟩),.pointer (some ⟨w.heap.size+1,0,none⟩),.int .i64 (x:Int),.func (.func g) #[] lb,.int .i64 (x:Int),undef],defers:=[] }) ?assign ?body ?done ?stop
 case assign =>
  intro l x W K hK
  unfold encN
  gi_wp2
  exact hK
 case body =>
  rintro l pre x W ⟨⟨rfl,hc2,hf2,hc3,hf3⟩,hB⟩ _
  gi_wp2
  have e3:(W.setCell ⟨w.heap.size,0,none⟩ (.int .i64 (x:Int))).cell? ⟨w.heap.size+1,0,none⟩=some (.bool false):=(World.cell?_setCell_other _ _ _ _ (fun e=>by injection e with e1;omega)).trans hc3
  exact ⟨(KeepsOthers.setCell _ _ _).trans (KeepsOthers.setCell _ _ _),⟨rfl,x,rfl,(World.cell?_setCell_other _ _ _ _ (fun e=>by injection e with e1;omega)).trans (World.cell?_setCell_same' _ _ _ (by rw [hc2];rfl)),World.cell?_setCell_same' _ _ _ (by rw [e3];rfl)⟩,(hB.setCell (p:=⟨w.heap.size,0,none⟩) (Nat.le_refl _) _).setCell (p:=⟨w.heap.size+1,0,none⟩) (by simp) _⟩
 case done =>
  rintro D ys W hD rfl ⟨⟨rfl,hc2,hf2,hc3,hf3⟩,hB⟩ hK
  gi_wp2
  have e3:(W.setCell ⟨w.heap.size,0,none⟩ (.int .i64 0)).cell? ⟨w.heap.size+1,0,none⟩=some (.bool false):=(World.cell?_setCell_other _ _ _ _ (fun e=>by injection e with e1;omega)).trans hc3
  have hK':=((KeepsOthers.setCell W ⟨w.heap.size,0,none⟩ (.int .i64 0)).trans (KeepsOthers.setCell _ ⟨w.heap.size+1,0,none⟩ (.bool false))).same D _ hK rfl
  refine ⟨by simp,.inl ⟨_,_,rfl,run_takeDeferred hK',?_⟩⟩
  have d2:=cell_kept ((World.cell?_setCell_other _ _ _ _ (fun e=>by injection e with e1;omega)).trans (World.cell?_setCell_same' W ⟨w.heap.size,0,none⟩ (.int .i64 0) (by rw [hc2];rfl)):((W.setCell ⟨w.heap.size,0,none⟩ (.int .i64 0)).setCell ⟨w.heap.size+1,0,none⟩ (.bool false)).cell? ⟨w.heap.size,0,none⟩=_) (grownBy_putObj' _ D (.deferred none)) (fun r e=>by cases e;exact ⟨_,hK',rfl⟩)
  have d3:=cell_kept (World.cell?_setCell_same' (W.setCell ⟨w.heap.size,0,none⟩ (.int .i64 0)) ⟨w.heap.size+1,0,none⟩ (.bool false) (by rw [e3];rfl)) (grownBy_putObj' _ D (.deferred none)) (fun r e=>by cases e;exact ⟨_,hK',rfl⟩)
  refine ⟨.tuple #[.int .i64 0,.bool false],?_,rfl,((hB.setCell (p:=⟨w.heap.size,0,none⟩) (Nat.le_refl _) _).setCell (p:=⟨w.heap.size+1,0,none⟩) (by simp) _).trans (belowK_b (w:=w) (Nat.le_refl _) _ D _ _ (by simp at hD;omega) hK' rfl rfl)⟩
  simp [results,Tryz.f60,go_sem,d2,d3]
 case stop =>
  rintro D c pre W hD hpre ⟨⟨rfl,x,rfl,hc2,hc3⟩,hB⟩ hK
  gi_wp2
  refine ⟨by simp,.inl ⟨_,_,rfl,run_takeDeferred hK,?_⟩⟩
  have d2:=cell_kept hc2 (grownBy_putObj' _ D (.deferred none)) (fun r e=>by cases e;exact ⟨_,hK,rfl⟩)
  have d3:=cell_kept hc3 (grownBy_putObj' _ D (.deferred none)) (fun r e=>by cases e;exact ⟨_,hK,rfl⟩)
  have hs:firstV s = .tuple #[.int .i64 (x:Int),.bool true]:=by
   obtain ⟨q,y,r,e1,e2⟩:=hpre
   cases q with
   | nil =>
    simp at e2
    subst e2
    rw [e1]
    rfl
   | cons z q=>simp at e2
  refine ⟨_,?_,by rw [hs],hB.trans (belowK_b (w:=w) (Nat.le_refl _) W D _ _ (by simp at hD;omega) hK rfl rfl)⟩
  simp [results,Tryz.f60,go_sem,d2,d3]
end
section
open Go Go.RowKit Go.Shelf Num
attribute [local go_sem] Oper.semAt_some
theorem infoSeq:(Tryz.prog.info? 3).map (fun i=>(i.zero,i.size,i.bytes))=some (some (.int .i64 0),1,8):=by kernel_rfl
abbrev natV (k:Nat):Value:=.int .i64 (k:Int)
theorem appendSeq_in (n:Nat) (hn:3≤n) (g:Nat) (lb:Array Value) (s:List Nat) (N:Nat) (hN:N≤1000000) (w:World) (eg:∀ args w,(callFunc g args).run Tryz.prog w = .ok (.enter g args) w) (hseq:Gives (n - 1) g lb s N w) :
  CallsIn Fence.wide n Tryz.prog 83 #[.slice none 0 0,.func (.func g) #[] lb] w fun e W' => ∃ v,e = .returned v∧W'.ownsRow w.heap.size 3 1 v s.length (s.map natV)∧(v = .slice none 0 0 ↔ s=[])∧Below w.heap.size w W':=by
 have h1:1≤n:=by omega
 obtain ⟨i0,hi,hz0,hz1,hz2⟩:=info_parts infoSeq
 refine callsIn_of_wp_marks Tryz.func83 rfl trivial ?_ rfl
 simp only [Tryz.ntmps83,List.size_toArray,List.length_cons,List.length_nil,Nat.reduceAdd,Nat.reduceSub,Array.replicate_succ,Array.replicate_zero,List.push_toArray,List.append_toArray,List.nil_append,List.cons_append]
 gi_wp2
 have bO:=Boxed.new w 46 (.slice none 0 0)
 have hB0:Below w.heap.size w (w.alloc (.cells #[.slice none 0 0] 46)):=(Below.refl _ w).alloc (Nat.le_refl _) _
 refine wpIn_rangeFunc_ownG (F:=Fence.wide) rfl h1 (gf:=g) (lb:=lb) rfl trivial eg hseq belowK_t (belowK_b (by simp)) hB0 (fun _=>rfl)
  (fun pre W=>(∃ v,Boxed W w.heap.size 46 v∧W.ownsRow w.heap.size 3 1 v pre.length (pre.map natV)∧(v = .slice none 0 0 ↔ pre=[]))∧Below w.heap.size w W)
  (fun _ _ _=>False)
  (OwnFrom.and (Own.from (holdsRow_own w.heap.size w.heap.size 46 3 1 (fun pre=>pre.length) (fun pre=>pre.map natV) (fun pre v=>v = .slice none 0 0 ↔ pre=[])) _) (ownFrom_below (Nat.le_refl _) (by simp)))
  (fun _ _ _ _ _ hs _ _=>hs)
  ⟨⟨_,bO,World.ownsRow_nil _ _ _ _,by simp⟩,hB0⟩
  (fun x => { tmps:=#[.slice none 0 0,.func (.func g) #[] lb,.pointer (some ⟨w.heap.size,0,none⟩),undef,.slice none 0 0,.int .i64 (x:Int),.func (.func g) #[] lb,.int .i64 (x:Int),undef,undef,undef,undef,undef],defers:=[] }) ?assign ?body ?done ?stop
 case assign =>
  intro l x W K hK
  unfold encN
  gi_wp2
  exact hK
 case body =>
  rintro l pre x W ⟨⟨v,hv,hrow,hnil⟩,hB⟩ hlt
  have hc:=hv.cell
  gi_wp2_with (gi_at_builtin;refine wpListIn_append_own _ rfl _ _ 46 rfl w.heap.size 3 i0 (.int .i64 0) 1 8 Tryz.underlying46 hi hz0 hz1 hz2 rfl (by decide) _ _ _ rfl (hrow.alloc _) ⟨W.heap.size,0,none⟩ 1 1 [.int .i64 (x:Int)] rfl rfl (cell_one_new _ _ _) (by simp [Value.oneCell']) (by unfold maxLen;omega) (by omega) (by have:=hB.size;simp;omega) ?_;intro v' w1 hown' hgrow _;obtain ⟨g',cap',rfl⟩:=ownsRow_succ hown';obtain ⟨hv1,hv2,hr2,hk2,hb2⟩:=hv.appended (by decide) hrow hB.size (Nat.le_refl _) hown' hgrow;have hc1:=hv1.cell;have hf1:=hv1.frozen)
  exact ⟨hk2.from _,hb2,⟨_,hv2,by simpa using hr2,by simp⟩,hB.trans hb2⟩
 case done =>
  rintro D ys W hD rfl ⟨⟨v,hv,hrow,hnil⟩,hB⟩ hK
  have hc:=hv.cell
  gi_wp2
  refine ⟨by simp,.inl ⟨_,_,rfl,run_takeDeferred hK,?_⟩⟩
  exact ⟨_,results_tmp rfl _ _ _,v,rfl,ownsRow_putObj hrow _ hK rfl,hnil,hB.trans (belowK_b (w:=w) (Nat.le_refl _) W D _ _ (by simp at hD;omega) hK rfl rfl)⟩
 case stop =>
  rintro D c pre W _ _ h _
  exact h.elim
end
section
open Go Go.RowKit Go.Shelf Num
theorem first_any (g:Nat) (lb:Array Value) (s:List Nat) (N:Nat) (w:World) (eg:∀ args w,(callFunc g args).run Tryz.prog w = .ok (.enter g args) w) (hseq:Gives 2 g lb s N w) :
  Calls Tryz.prog 60 #[.func (.func g) #[] lb] w fun e W'=>e = .returned (firstV s)∧Below w.heap.size w W':=by
 refine (callsIn_wide (n:=3)).1 ?_
 exact first_in 3 (by decide) g lb s N w eg hseq
theorem appendSeq_any (g:Nat) (lb:Array Value) (s:List Nat) (N:Nat) (hN:N≤1000000) (w:World) (eg:∀ args w,(callFunc g args).run Tryz.prog w = .ok (.enter g args) w) (hseq:Gives 2 g lb s N w) :
  Calls Tryz.prog 83 #[.slice none 0 0,.func (.func g) #[] lb] w fun e W' => ∃ v,e = .returned v∧W'.ownsRow w.heap.size 3 1 v s.length (s.map natV)∧(v = .slice none 0 0 ↔ s=[])∧Below w.heap.size w W':=by
 refine (callsIn_wide (n:=3)).1 ?_
 exact appendSeq_in 3 (by decide) g lb s N hN w eg hseq
theorem collect_any (g:Nat) (lb:Array Value) (s:List Nat) (N:Nat) (hN:N≤1000000) (w:World) (eg:∀ args w,(callFunc g args).run Tryz.prog w = .ok (.enter g args) w) (hseq:Gives 2 g lb s N w) :
  Calls Tryz.prog 55 #[.func (.func g) #[] lb] w fun e W' => ∃ v,e = .returned v∧W'.ownsRow w.heap.size 3 1 v s.length (s.map natV)∧(v = .slice none 0 0 ↔ s=[])∧Below w.heap.size w W':=by
 have H:=Lib.hid (appendSeq_any g lb s N hN w eg hseq)
 clear hseq eg
 go_enter Tryz.func55,Tryz.ntmps55
 go_wp2_with fail
 refine H.out.mono ?_
 rintro e w1 ⟨v,rfl,h⟩
 go_wp2
 go_ret
 exact ⟨v,rfl,h⟩
theorem owns_mono {w:World} {b b' e size n:Nat} {v:Value} {xs:List Value} (h:w.ownsRow b e size v n xs) (hb:b'≤b):w.ownsRow b' e size v n xs :=
 ⟨h.1,h.2.imp id fun ⟨g,cap,cur,h1,h2,r⟩=>⟨g,cap,cur,h1,Nat.le_trans hb h2,r⟩⟩
theorem enters_with1:∀ args w,(callFunc 84 args).run Tryz.prog w = .ok (.enter 84 args) w:=enters_of Tryz.func84 (by kernel_rfl) rfl
theorem LogAt.take {w:World} {a:Option Addr} {c:Nat} {xs:List FactV} (h:LogAt w a c xs) (k:Nat):LogAt w a c (xs.take k):=by
 refine ⟨⟨?_,fun x hx=>h.facts.2 x (List.mem_of_mem_take hx)⟩,fun x hx=>h.ok x (List.mem_of_mem_take hx),by have:=h.len;simp;omega,by have:=h.cap;simp;omega⟩
 have:=h.facts.1.take k
 rwa [← List.map_take] at this
theorem history_any (xs:List FactV) (a:Option Addr) (c:Nat) (key:List UInt8) (w:World) (hE:Env w) (hl:LogAt w a c xs) (h0:lcheck (xs.map FactV.f)=0) :
  Calls Tryz.prog 22 #[.slice a xs.length c,.string ⟨key.toArray⟩] w fun e w' => ∃ v,e = .returned (.tuple #[v,.int .i64 0])∧w'.ownsRow w.heap.size 3 1 v (fwd (xs.map FactV.f) key xs.length 0).length ((fwd (xs.map FactV.f) key xs.length 0).map natV)∧Below w.heap.size w w':=by
 have HK:Hid (Calls Tryz.prog 43 #[.slice a xs.length c,.int .i64 0] w fun e w'=>e = .returned (.int .i64 0)∧Below w.heap.size w w'):=by
  have h:=checkK_any xs a c 0 w hE hl
  have e:lcheckK (xs.map FactV.f) 0=0:=by unfold lcheckK;rw [if_neg (by simpa using h0),if_neg (by omega)]
  rw [e] at h
  exact h
 have HW:=Lib.hid (fun W=>with_any a xs.length c key 1 W)
 have HL:=Lib.hid hl
 have hlen:=hl.len
 obtain ⟨s,hs⟩:∃ s,s=fwd (xs.map FactV.f) key xs.length 0:=⟨_,rfl⟩
 rw [← hs]
 have HSQ:=Lib.hid hs
 clear hE hl h0 hs
 go_enter Tryz.func22,Tryz.ntmps22
 go_wp2_with fail
 refine HK.out.mono ?_
 rintro e w1 ⟨rfl,hb1⟩
 have HB1:=Lib.hid hb1
 clear hb1
 go_wp2_with fail
 refine (HW.out _).mono ?_
 rintro e w2 ⟨bl,bk,bs,rfl,K1,K2,K3,hb2⟩
 have HB2:=Lib.hid (below_up HB1.out hb2)
 have HC:=Lib.hid (collect_any _ _ s xs.length hlen w2 enters_with1 (by rw [HSQ.out];exact gives_fwd 2 xs a c bl bk bs key w2 (HL.out.below HB2.out) K1 K2 K3))
 clear K1 K2 K3 hb2
 go_wp2_with fail
 refine HC.out.mono ?_
 rintro e w3 ⟨v,rfl,hv,_,hb3⟩
 have HV:=Lib.hid hv
 clear hv
 go_wp2
 go_ret2
 exact ⟨v,rfl,owns_mono HV.out HB2.out.size,below_up HB2.out hb3⟩
def latestV (fs:List FactP) (key:List UInt8) (n:Nat):Value :=
 match bwd fs key n with
 | [] => .tuple #[.int .i64 0,.bool false,.int .i64 0]
 | x :: _ => .tuple #[.int .i64 (x:Int),.bool true,.int .i64 0]
theorem latest_any (xs:List FactV) (a:Option Addr) (c:Nat) (key:List UInt8) (k:Nat) (hk:k≤xs.length) (w:World) (hE:Env w) (hl:LogAt w a c xs) (h0:lcheck (xs.map FactV.f)=0) :
  Calls Tryz.prog 28 #[.slice a xs.length c,.int .i64 (k:Int),.string ⟨key.toArray⟩] w fun e w'=>e = .returned (latestV ((xs.take k).map FactV.f) key k)∧Below w.heap.size w w':=by
 have HK:Hid (Calls Tryz.prog 43 #[.slice a xs.length c,.int .i64 (k:Int)] w fun e w'=>e = .returned (.int .i64 0)∧Below w.heap.size w w'):=by
  have h:=checkK_any xs a c k w hE hl
  have e:lcheckK (xs.map FactV.f) k=0:=by unfold lcheckK;rw [if_neg (by simpa using h0),if_neg (by rw [List.length_map];omega)]
  rw [e] at h
  exact h
 have HW:=Lib.hid (fun W=>with_any a k c key (-1) W)
 have HL:=Lib.hid (hl.take k)
 have hkl:(xs.take k).length=k:=by rw [List.length_take];omega
 have hlen:=hl.len
 have hcap:=hl.cap
 clear hE hl h0
 unfold latestV
 obtain ⟨s,hs⟩:∃ s,s=bwd ((xs.take k).map FactV.f) key k:=⟨_,rfl⟩
 rw [← hs]
 have HSQ:=Lib.hid hs
 clear hs
 cases s
 all_goals
  go_enter Tryz.func28,Tryz.ntmps28
  go_wp2_with fail
  refine HK.out.mono ?_
  rintro e w1 ⟨rfl,hb1⟩
  have HB1:=Lib.hid hb1
  clear hb1
  go_wp2_with fail
  refine (HW.out _).mono ?_
  rintro e w2 ⟨bl,bk,bs,rfl,K1,K2,K3,hb2⟩
  have HB2:=Lib.hid (below_up HB1.out hb2)
  have HC:=first_any _ _ _ _ w2 enters_with1 (gives_bwd 2 (xs.take k) a c bl bk bs key w2 (HL.out.below HB2.out) (by rw [hkl];exact K1) K2 K3)
  rw [hkl,← HSQ.out] at HC
  unfold firstV at HC
  have HC:=Lib.hid HC
  clear K1 K2 K3 hb2
  go_wp2_with fail
  refine HC.out.mono ?_
  rintro e w3 ⟨rfl,hb3⟩
  go_wp2
  go_ret3
  exact ⟨rfl,below_up HB2.out hb3⟩
end
section
open Go Go.RowKit Go.Shelf Num
theorem SRows.drop {w:World} {b off:Nat} {sz:Nat} {css:List (List Value)} (h:SRows w (some ⟨b,off,none⟩) sz css) (m:Nat):SRows w (some ⟨b,off+m * sz,none⟩) sz (css.drop m):=by
 rcases h with h | ⟨b',off',ha,hlt,hc⟩
 ·exact .inl (by rw [h];simp)
 ·injection ha with ha
  injection ha with e1 e2
  subst e1 e2
  refine .inr ⟨b,off+m * sz,rfl,hlt,fun k cs hk j v hv => ?_⟩
  rw [List.getElem?_drop] at hk
  have:=hc (m+k) cs hk j v hv
  rw [Nat.add_mul,← Nat.add_assoc] at this
  exact this
theorem LogAt.drop {w:World} {b off:Nat} {c:Nat} {xs:List FactV} (h:LogAt w (some ⟨b,off,none⟩) c xs) (m:Nat):LogAt w (some ⟨b,off+m * 21,none⟩) (c - m) (xs.drop m):=by
 refine ⟨⟨?_,fun x hx=>h.facts.2 x (List.mem_of_mem_drop hx)⟩,fun x hx=>h.ok x (List.mem_of_mem_drop hx),by have:=h.len;simp;omega,by have:=h.cap;simp;omega⟩
 have:=h.facts.1.drop m
 rwa [← List.map_drop] at this
theorem fwd_lt {fs:List FactP} {key:List UInt8} {n k x:Nat} (h:x∈fwd fs key n k):x < n:=by
 unfold fwd at h
 exact List.mem_range.1 (List.mem_of_mem_drop (List.mem_filter.1 h).1)
def replacedV (i:Nat):List Nat→Value
 | [] => .tuple #[.int .i64 0,.bool false,.int .i64 0]
 | x :: _ => .tuple #[.int .i64 ((i:Int)+1+(x:Int)),.bool true,.int .i64 0]
def behind (xs:List FactV) (k i:Nat):List FactV:=(xs.take k).drop (i+1)
theorem replaced_any (xs:List FactV) (a:Option Addr) (c:Nat) (k i:Nat) (x:FactV) (hk:k≤xs.length) (hi:i < k) (hx:xs[i]? = some x) (w:World) (hE:Env w) (hl:LogAt w a c xs) (h0:lcheck (xs.map FactV.f)=0) :
  Calls Tryz.prog 29 #[.slice a xs.length c,.int .i64 (k:Int),.int .i64 (i:Int)] w fun e w'=>e = .returned (replacedV i (fwd ((behind xs k i).map FactV.f) x.f.key (behind xs k i).length 0))∧Below w.heap.size w w':=by
 have HK:Hid (Calls Tryz.prog 43 #[.slice a xs.length c,.int .i64 (k:Int)] w fun e w'=>e = .returned (.int .i64 0)∧Below w.heap.size w w'):=by
  have h:=checkK_any xs a c k w hE hl
  have e:lcheckK (xs.map FactV.f) k=0:=by unfold lcheckK;rw [if_neg (by simpa using h0),if_neg (by rw [List.length_map];omega)]
  rw [e] at h
  exact h
 obtain ⟨b,off,rfl,hbl,cx,_⟩:=hl.facts.cell hx
 obtain ⟨A,hA⟩:∃ A:Option Addr,(if c=i+1 then some ⟨b,off,none⟩ else some ⟨b,off+(i+1) * 21,none⟩)=A:=⟨_,rfl⟩
 have HL:Hid (LogAt w A (c - (i+1)) (behind xs k i)):=by
  show LogAt w A (c - (i+1)) (behind xs k i)
  rw [← hA]
  have hd:LogAt w (some ⟨b,off+(i+1) * 21,none⟩) (c - (i+1)) (behind xs k i):=(hl.take k).drop (i+1)
  split
  ·rename_i hce
   have he:behind xs k i=[]:=List.eq_nil_of_length_eq_zero (by unfold behind;rw [List.length_drop,List.length_take];have:=hl.cap;omega)
   rw [he]
   exact ⟨⟨.inl rfl,fun x hx=>by cases hx⟩,fun x hx=>(by cases hx),Nat.zero_le _,Nat.zero_le _⟩
  ·exact hd
 have hbe:(behind xs k i).length=k - (i+1):=by unfold behind;rw [List.length_drop,List.length_take];omega
 have hlen:=hl.len
 have hcap:=hl.cap
 have HW:=Lib.hid (fun W=>with_any A (k - (i+1)) (c - (i+1)) x.f.key 1 W)
 obtain ⟨s,hs⟩:∃ s,s=fwd ((behind xs k i).map FactV.f) x.f.key (behind xs k i).length 0:=⟨_,rfl⟩
 rw [← hs]
 have HFI:Hid (∀ W bl bk bs,Below w.heap.size w W→Box W bl #[.slice A (k - (i+1)) (c - (i+1))] 22→Box W bk #[.string ⟨x.f.key.toArray⟩] 9→Box W bs #[.int .i64 1] 3→Calls Tryz.prog 60 #[.func (.func 84) #[] #[.pointer (some ⟨bs,0,none⟩),.pointer (some ⟨bl,0,none⟩),.pointer (some ⟨bk,0,none⟩)]] W fun e W'=>e = .returned (firstV s)∧Below W.heap.size W W'):=fun W bl bk bs hb K1 K2 K3=>by
  rw [hs]
  exact first_any _ _ _ _ W enters_with1 (gives_fwd 2 (behind xs k i) _ _ bl bk bs x.f.key W (HL.out.below hb) (by rw [hbe];exact K1) K2 K3)
 have KX:Hid (∀ W,Below w.heap.size w W→W.cell? ⟨b,off+i * 21,none⟩=some (.string ⟨x.f.key.toArray⟩)):=fun W hb=>(hb.cell (p:=⟨b,off+i * 21,none⟩) hbl).trans cx
 have hil:i < xs.length:=by omega
 have HXB:∀ y r,s=y :: r→y≤1000000:=fun y r e=>by
  have:=fwd_lt (x:=y) (by rw [← hs,e];exact .head _:y∈fwd ((behind xs k i).map FactV.f) x.f.key (behind xs k i).length 0)
  omega
 have HXB:=Lib.hid HXB
 clear hE hl h0 cx hs hbe hx HL
 generalize x.f.key=key at *
 have hw1:IntKind.i64.wrap ((i:Int)+1)=(i:Int)+1:=by rw [IntKind.wrap_i64];omega
 have hkc:k≤c:=by omega
 have hb2:0≤(i:Int)+1∧(i:Int)+1≤(k:Int):=by omega
 have ht1:((i:Int)+1).toNat=i+1:=by omega
 cases s with
 | nil =>
  unfold firstV at HFI
  unfold replacedV
  go_enter Tryz.func29,Tryz.ntmps29
  go_wp2_with fail
  refine HK.out.mono ?_
  rintro e w1 ⟨rfl,hb1⟩
  go_wp2_with fail
  have HBc:=below_drewN hb1 1
  refine wp_region_held_drew (S:=fun W=>W.cell? ⟨b,off+i * 21,none⟩=some (.string ⟨key.toArray⟩)) (by kernel_rfl) ?hS19 (fun hHeld => ?hR19)
  case hS19=>exact KX.out _ HBc
  refine tk 0 (some 26) (?v20) rfl rfl ?hy20 ?hR20
  case hy20=>(intro w hSw;(try dsimp only at hSw);go_simp;try rfl)
  simp only [pS]
  refine tk 1 (some 27) (?v21) rfl rfl ?hy21 ?hR21
  case hy21=>(intro w hSw;(try dsimp only at hSw);go_simp;try rfl)
  simp only [pS]
  refine tk 2 (some 28) (?v22) rfl rfl ?hy22 ?hR22
  case hy22=>(intro w hSw;(try dsimp only at hSw);go_simp;try rfl)
  simp only [pS]
  refine tk 3 (some 29) (?v23) rfl rfl ?hy23 ?hR23
  case hy23=>(intro w hSw;(try dsimp only at hSw);go_simp;try rfl)
  simp only [pS]
  refine tk 4 (some 30) (?v24) rfl rfl ?hy24 ?hR24
  case hy24=>(intro w hSw;(try dsimp only at hSw);go_simp;try rfl)
  simp only [pS]
  refine tk 5 (some 31) (?v25) rfl rfl ?hy25 ?hR25
  case hy25=>(intro w hSw;(try dsimp only at hSw);go_simp;try rfl)
  simp only [pS]
  refine tk 6 (some 32) (?v26) rfl rfl ?hy26 ?hR26
  case hy26=>(intro w hSw;(try dsimp only at hSw);go_simp;try rfl)
  simp only [pS]
  refine tk 7 (some 33) (?v27) rfl rfl ?hy27 ?hR27
  case hy27=>(intro w hSw;(try dsimp only at hSw);go_simp;try rfl)
  simp only [pS]
  refine tk 8 (some 34) (?v28) rfl rfl ?hy28 ?hR28
  case hy28=>(intro w hSw;(try dsimp only at hSw);go_simp;try rfl)
  simp only [pS]
  refine tk 9 (some 35) (?v29) rfl rfl ?hy29 ?hR29
  case hy29=>(intro w hSw;(try dsimp only at hSw);go_simp;try rfl)
  simp only [pS]
  refine wpAnyH_ready (rs:=[10]) (by kernel_rfl) (by simp) ?_
  refine AllReadyH.cons (o:=_) rfl (fun K hK => ?hC30) AllReadyH.nil
  rw [if_pos (by rfl)]
  go_simp
  go_at_call 56
  refine (HW.out _).mono ?_
  rintro e wn ⟨bl,bk,bs,rfl,K1,K2,K3,hbn⟩
  replace HBc:=below_up HBc hbn
  clear hbn
  go_wp2_with fail
  refine hK.out _ _ ?hS30 (fun hHeld => ?hR30)
  case hS30=>exact KX.out _ HBc
  try simp only [pS]
  refine wpAnyH_ready (rs:=[11]) (by kernel_rfl) (by simp) ?_
  refine AllReadyH.cons (o:=_) rfl (fun K hK => ?hC31) AllReadyH.nil
  rw [if_pos (by rfl)]
  go_simp
  go_at_call 60
  refine (HFI.out _ bl bk bs HBc K1 K2 K3).mono ?_
  rintro e wn ⟨rfl,hbn⟩
  replace HBc:=below_up HBc hbn
  clear hbn K1 K2 K3
  go_wp2_with fail
  refine hK.out _ _ ?hS31 (fun hHeld => ?hR31)
  case hS31=>exact KX.out _ HBc
  try simp only [pS]
  refine tk 12 (some 25) (?v32) rfl rfl ?hy32 ?hR32
  case hy32=>(intro w hSw;(try dsimp only at hSw);go_simp;try rfl)
  simp only [pS]
  refine tk 13 (some 38) (?v33) rfl rfl ?hy33 ?hR33
  case hy33=>(intro w hSw;(try dsimp only at hSw);go_simp;try rfl)
  simp only [pS]
  refine tk 14 (some 39) (?v34) rfl rfl ?hy34 ?hR34
  case hy34=>(intro w hSw;(try dsimp only at hSw);go_simp;try rfl)
  simp only [pS]
  refine tk 15 (some 10) (?v35) rfl rfl ?hy35 ?hR35
  case hy35=>(intro w hSw;(try dsimp only at hSw);go_simp;try rfl)
  simp only [pS]
  refine tk 16 (some 11) (?v36) rfl rfl ?hy36 ?hR36
  case hy36=>(intro w hSw;(try dsimp only at hSw);go_simp;try rfl)
  simp only [pS]
  refine wpAnyH_done (by kernel_rfl) ?_ _
  go_wp2
  go_ret3
  exact ⟨rfl,HBc⟩
 | cons x' r' =>
  unfold firstV at HFI
  unfold replacedV
  have hxb:=HXB.out _ _ rfl
  go_enter Tryz.func29,Tryz.ntmps29
  go_wp2_with fail
  refine HK.out.mono ?_
  rintro e w1 ⟨rfl,hb1⟩
  go_wp2_with fail
  have HBc:=below_drewN hb1 1
  refine wp_region_held_drew (S:=fun W=>W.cell? ⟨b,off+i * 21,none⟩=some (.string ⟨key.toArray⟩)) (by kernel_rfl) ?hS37 (fun hHeld => ?hR37)
  case hS37=>exact KX.out _ HBc
  refine tk 0 (some 26) (?v38) rfl rfl ?hy38 ?hR38
  case hy38=>(intro w hSw;(try dsimp only at hSw);go_simp;try rfl)
  simp only [pS]
  refine tk 1 (some 27) (?v39) rfl rfl ?hy39 ?hR39
  case hy39=>(intro w hSw;(try dsimp only at hSw);go_simp;try rfl)
  simp only [pS]
  refine tk 2 (some 28) (?v40) rfl rfl ?hy40 ?hR40
  case hy40=>(intro w hSw;(try dsimp only at hSw);go_simp;try rfl)
  simp only [pS]
  refine tk 3 (some 29) (?v41) rfl rfl ?hy41 ?hR41
  case hy41=>(intro w hSw;(try dsimp only at hSw);go_simp;try rfl)
  simp only [pS]
  refine tk 4 (some 30) (?v42) rfl rfl ?hy42 ?hR42
  case hy42=>(intro w hSw;(try dsimp only at hSw);go_simp;try rfl)
  simp only [pS]
  refine tk 5 (some 31) (?v43) rfl rfl ?hy43 ?hR43
  case hy43=>(intro w hSw;(try dsimp only at hSw);go_simp;try rfl)
  simp only [pS]
  refine tk 6 (some 32) (?v44) rfl rfl ?hy44 ?hR44
  case hy44=>(intro w hSw;(try dsimp only at hSw);go_simp;try rfl)
  simp only [pS]
  refine tk 7 (some 33) (?v45) rfl rfl ?hy45 ?hR45
  case hy45=>(intro w hSw;(try dsimp only at hSw);go_simp;try rfl)
  simp only [pS]
  refine tk 8 (some 34) (?v46) rfl rfl ?hy46 ?hR46
  case hy46=>(intro w hSw;(try dsimp only at hSw);go_simp;try rfl)
  simp only [pS]
  refine tk 9 (some 35) (?v47) rfl rfl ?hy47 ?hR47
  case hy47=>(intro w hSw;(try dsimp only at hSw);go_simp;try rfl)
  simp only [pS]
  refine wpAnyH_ready (rs:=[10]) (by kernel_rfl) (by simp) ?_
  refine AllReadyH.cons (o:=_) rfl (fun K hK => ?hC48) AllReadyH.nil
  rw [if_pos (by rfl)]
  go_simp
  go_at_call 56
  refine (HW.out _).mono ?_
  rintro e wn ⟨bl,bk,bs,rfl,K1,K2,K3,hbn⟩
  replace HBc:=below_up HBc hbn
  clear hbn
  go_wp2_with fail
  refine hK.out _ _ ?hS48 (fun hHeld => ?hR48)
  case hS48=>exact KX.out _ HBc
  try simp only [pS]
  refine wpAnyH_ready (rs:=[11]) (by kernel_rfl) (by simp) ?_
  refine AllReadyH.cons (o:=_) rfl (fun K hK => ?hC49) AllReadyH.nil
  rw [if_pos (by rfl)]
  go_simp
  go_at_call 60
  refine (HFI.out _ bl bk bs HBc K1 K2 K3).mono ?_
  rintro e wn ⟨rfl,hbn⟩
  replace HBc:=below_up HBc hbn
  clear hbn K1 K2 K3
  go_wp2_with fail
  refine hK.out _ _ ?hS49 (fun hHeld => ?hR49)
  case hS49=>exact KX.out _ HBc
  try simp only [pS]
  refine tk 12 (some 25) (?v50) rfl rfl ?hy50 ?hR50
  case hy50=>(intro w hSw;(try dsimp only at hSw);go_simp;try rfl)
  simp only [pS]
  refine tk 13 (some 38) (?v51) rfl rfl ?hy51 ?hR51
  case hy51=>(intro w hSw;(try dsimp only at hSw);go_simp;try rfl)
  simp only [pS]
  refine tk 14 (some 39) (?v52) rfl rfl ?hy52 ?hR52
  case hy52=>(intro w hSw;(try dsimp only at hSw);go_simp;try rfl)
  simp only [pS]
  refine tk 15 (some 10) (?v53) rfl rfl ?hy53 ?hR53
  case hy53=>(intro w hSw;(try dsimp only at hSw);go_simp;try rfl)
  simp only [pS]
  refine tk 16 (some 11) (?v54) rfl rfl ?hy54 ?hR54
  case hy54=>(intro w hSw;(try dsimp only at hSw);go_simp;try rfl)
  simp only [pS]
  refine wpAnyH_done (by kernel_rfl) ?_ _
  go_wp2
  go_ret3
  exact ⟨rfl,HBc⟩
end
end Go.Proofs.YtgopbldkhlmbnaaGreatDoor
