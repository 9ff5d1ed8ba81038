/- Awake14 -/
import Derived.Test.YtgopbldkhlmbnaaGreatDoorJLog
import Derived.Test.YtgopbldkhlmbnaaGreatDoorJReads
import Derived.Test.YtgopbldkhlmbnaaGreatDoorJShelf
set_option maxHeartbeats 16000000
set_option maxRecDepth 100000
namespace Go.Proofs.YtgopbldkhlmbnaaGreatDoor
open Go Go.RowKit Num
def exL:List FactV:=[depV [97] 1,depV [98] 2,depV [97] 2]
theorem ex_check:lcheck (exL.map FactV.f)=0:=by decide +kernel
theorem ex_known1:knownN (exL.map FactV.f) 1=1:=by decide +kernel
theorem ex_known2:knownN (exL.map FactV.f) 2=3:=by decide +kernel
theorem ex_fwd:fwd (exL.map FactV.f) [97] exL.length 0=[0,2]:=by decide +kernel
theorem ex_bwd:bwd ((exL.take 2).map FactV.f) [97] 2=[0]:=by decide +kernel
theorem ex_rep1:fwd ((behind exL 2 0).map FactV.f) (depV [97] 1).f.key (behind exL 2 0).length 0=[]:=by decide +kernel
theorem ex_rep2:fwd ((behind exL 3 0).map FactV.f) (depV [97] 1).f.key (behind exL 3 0).length 0=[1]:=by decide +kernel
theorem run_three (k1 k2 k3:List UInt8) (s1 s2 s3:Int) (w:World):(Instr.buildSlice 22 3 #[(0,.agg (depCells k1 s1)),(1,.agg (depCells k2 s2)),(2,.agg (depCells k3 s3))]).run Tryz.prog w = .ok (.slice (some ⟨w.heap.size,0,none⟩) 3 3) (w.alloc (.cells (depCells k1 s1 ++ depCells k2 s2 ++ depCells k3 s3) 36)):=by
 unfold depCells
 simp [go_sem]
theorem wpList_slice {P:Program} {ops:Array Oper} {rest:List Oper} {o:Oper} {a:Act} {w w':World} {Q:Exit→Act→World→Prop} (hgd:o.guard=none) (t:TypeId) (n:Nat) (ps:Array (Nat × Operand)) (ho:o.op = .buildSlice t n ps) (qs:Array (Nat × Value)) (v:Value)
  (hps:(ps.map fun (i,x)=>(i,a.eval x))=qs) (hrun:(Instr.buildSlice t n qs).run P w = .ok v w') (h:wpList P ops Q rest (a.put o.dst v) w'):wpList P ops Q (o :: rest) a w:=by
 refine wpList_plain hgd fun K hK=>o_slice ho (v:=v) (w':=w') ?_ (hK _ _ h)
 rw [hps]
 exact hrun
theorem three_at {w:World} {B:Nat} (k1 k2 k3:List UInt8) (s1 s2 s3:Int) (h:w.heap[B]? = some (.cells (depCells k1 s1 ++ depCells k2 s2 ++ depCells k3 s3) 36 (0,0))):SRows w (some ⟨B,0,none⟩) 21 ([depV k1 s1,depV k2 s2,depV k3 s3].map FactV.cells):=by
 have hc:∀ j,w.cell? ⟨B,j,none⟩=((depCells k1 s1).toList ++ (depCells k2 s2).toList ++ (depCells k3 s3).toList)[j]? := fun j=>by
  rw [cell_at h j]
  simp [depCells]
 refine .inr ⟨B,0,rfl,(Array.getElem?_eq_some_iff.1 h).1,fun k cs hk j v hv => ?_⟩
 rw [hc]
 have l1:(depCells k1 s1).toList.length=21:=rfl
 have l2:(depCells k2 s2).toList.length=21:=rfl
 have l3:(depCells k3 s3).toList.length=21:=rfl
 have hj:j < cs.length:=(List.getElem?_eq_some_iff.1 hv).1
 match k,hk with
 | 0,hk =>
  have e:cs=(depCells k1 s1).toList:=(Option.some.inj hk).symm
  subst e
  rw [List.getElem?_append_left (by rw [List.length_append];omega),List.getElem?_append_left (by omega)]
  simpa using hv
 | 1,hk =>
  have e:cs=(depCells k2 s2).toList:=(Option.some.inj hk).symm
  subst e
  rw [List.getElem?_append_left (by rw [List.length_append];omega),List.getElem?_append_right (by omega),l1]
  rw [← hv]
  congr 1
  omega
 | 2,hk =>
  have e:cs=(depCells k3 s3).toList:=(Option.some.inj hk).symm
  subst e
  rw [List.getElem?_append_right (by rw [List.length_append];omega),List.length_append,l1,l2]
  rw [← hv]
  congr 1
  omega
 | k+3,hk=>simp at hk
theorem awake14_any (w:World) (hE:Env w):Calls Tryz.prog 12 #[] w fun e w'=>e = .returned (.bool true)∧Below w.heap.size w w':=by
 have HE:=Lib.hid hE
 clear hE
 go_enter Tryz.func12,Tryz.ntmps12
 go_wp2_with fail
 refine (deposit_any [97] 1 _).mono ?_
 rintro e w1 ⟨rfl,hb⟩
 have HB:=Lib.hid hb
 clear hb
 go_wp2_with fail
 refine (deposit_any [98] 2 _).mono ?_
 rintro e w2 ⟨rfl,hb⟩
 have HB:=Lib.hid (below_up HB.out hb)
 clear hb
 go_wp2_with fail
 refine (deposit_any [97] 2 _).mono ?_
 rintro e w3 ⟨rfl,hb⟩
 have HB:=Lib.hid (below_up HB.out hb)
 clear hb
 obtain ⟨w4,hw4⟩:∃ w4,w4=w3.alloc (.cells (depCells [97] 1 ++ depCells [98] 2 ++ depCells [97] 2) 36):=⟨_,rfl⟩
 have HRUN:=run_three [97] [98] [97] 1 2 2 w3
 rw [← hw4] at HRUN
 have HRUN:=Lib.hid HRUN
 have HB:=Lib.hid (show Below w.heap.size w w4 by rw [hw4];exact below_up HB.out (below_alloc _ _))
 have HL:Hid (LogAt w4 (some ⟨w3.heap.size,0,none⟩) 3 exL):=by
  refine ⟨⟨?_,fun x hx => ?_⟩,fun x hx => ?_,by decide,by decide⟩
  ·exact three_at [97] [98] [97] 1 2 2 (by rw [hw4];exact heap_alloc_new w3 _)
  ·have:x=depV [97] 1∨x=depV [98] 2∨x=depV [97] 2:=by simpa [exL] using hx
   rcases this with rfl | rfl | rfl <;> exact ⟨.inl rfl,.inl rfl⟩
  ·have:x=depV [97] 1∨x=depV [98] 2∨x=depV [97] 2:=by simpa [exL] using hx
   rcases this with rfl | rfl | rfl <;> exact dep_ok _ _ (by decide)
 clear hw4
 generalize hB:w3.heap.size=B at *
 clear hB
 have HKN:Hid (∀ (st:Int) (W:World),Below w4.heap.size w4 W→Calls Tryz.prog 13 #[.slice (some ⟨B,0,none⟩) 3 3,.int .i64 st] W fun e w'=>e = .returned (.tuple #[.int .i64 (knownN (exL.map FactV.f) st:Nat),.int .i64 0])∧Below W.heap.size W w'):=fun st W hb=>by
  have h:=known_any exL (some ⟨B,0,none⟩) 3 st W (HE.out.below (below_up HB.out hb)) (HL.out.below hb)
  rw [if_pos ex_check] at h
  exact h
 have HK1:=HKN.out 1
 have HK2:=HKN.out 2
 rw [ex_known1] at HK1
 rw [ex_known2] at HK2
 have HK1:=Lib.hid HK1
 have HK2:=Lib.hid HK2
 have HHI:Hid (∀ (W:World),Below w4.heap.size w4 W→Calls Tryz.prog 22 #[.slice (some ⟨B,0,none⟩) 3 3,.string ⟨#[97]⟩] W fun e w' => ∃ b off c,e = .returned (.tuple #[.slice (some ⟨b,off,none⟩) 2 c,.int .i64 0])∧b < w'.heap.size∧w'.cell? ⟨b,off,none⟩=some (.int .i64 0)∧w'.cell? ⟨b,off+1,none⟩=some (.int .i64 2)∧Below W.heap.size W w'):=fun W hb=>by
  refine (history_any exL (some ⟨B,0,none⟩) 3 [97] W (HE.out.below (below_up HB.out hb)) (HL.out.below hb) ex_check).mono ?_
  rintro e w' ⟨v,rfl,hv,hbw⟩
  rw [ex_fwd] at hv
  obtain ⟨a,cap,rfl,hr⟩:=row_of_owns hv
  obtain ⟨b,off,rfl,hlt,hc⟩:=hr.addr (by simp)
  exact ⟨b,off,cap,rfl,hlt,hc 0 _ rfl,hc 1 _ rfl,hbw⟩
 have HLA:Hid (∀ (W:World),Below w4.heap.size w4 W→Calls Tryz.prog 28 #[.slice (some ⟨B,0,none⟩) 3 3,.int .i64 2,.string ⟨#[97]⟩] W fun e w'=>e = .returned (.tuple #[.int .i64 0,.bool true,.int .i64 0])∧Below W.heap.size W w'):=fun W hb=>by
  have h:=latest_any exL (some ⟨B,0,none⟩) 3 [97] 2 (by decide) W (HE.out.below (below_up HB.out hb)) (HL.out.below hb) ex_check
  unfold latestV at h
  rw [ex_bwd] at h
  exact h
 have HR1:Hid (∀ (W:World),Below w4.heap.size w4 W→Calls Tryz.prog 29 #[.slice (some ⟨B,0,none⟩) 3 3,.int .i64 2,.int .i64 0] W fun e w'=>e = .returned (.tuple #[.int .i64 0,.bool false,.int .i64 0])∧Below W.heap.size W w'):=fun W hb=>by
  have h:=replaced_any exL (some ⟨B,0,none⟩) 3 2 0 (depV [97] 1) (by decide) (by decide) rfl W (HE.out.below (below_up HB.out hb)) (HL.out.below hb) ex_check
  rw [ex_rep1] at h
  exact h
 have HR2:Hid (∀ (W:World),Below w4.heap.size w4 W→Calls Tryz.prog 29 #[.slice (some ⟨B,0,none⟩) 3 3,.int .i64 3,.int .i64 0] W fun e w'=>e = .returned (.tuple #[.int .i64 2,.bool true,.int .i64 0])∧Below W.heap.size W w'):=fun W hb=>by
  have h:=replaced_any exL (some ⟨B,0,none⟩) 3 3 0 (depV [97] 1) (by decide) (by decide) rfl W (HE.out.below (below_up HB.out hb)) (HL.out.below hb) ex_check
  rw [ex_rep2] at h
  exact h
 have HCK:Hid (∀ (W:World),Below w4.heap.size w4 W→Calls Tryz.prog 11 #[.slice (some ⟨B,0,none⟩) 3 3] W fun e w'=>e = .returned (.int .i64 0)∧Below W.heap.size W w'):=fun W hb=>by
  have h:=logCheck_any exL (some ⟨B,0,none⟩) 3 W (HE.out.below (below_up HB.out hb)) (by decide) (HL.out.below hb).facts (HL.out.below hb).ok
  rw [ex_check] at h
  exact h
 clear HKN HL HE
 generalize depCells [97] 1=d1 at *
 generalize depCells [98] 2=d2 at *
 generalize depCells [97] 2=d3 at *
 go_wp2_with (refine wpList_slice rfl 22 3 #[(0,.tmp 18),(1,.tmp 19),(2,.tmp 20)] rfl #[(0,.agg d1),(1,.agg d2),(2,.agg d3)] _ (by simp [Act.eval]) HRUN.out ?_)
 refine (HK1.out _ (Below.refl _ _)).mono ?_
 rintro e v1 ⟨rfl,hb⟩
 have HV:=Lib.hid hb
 clear hb
 go_wp2_with fail
 refine (HK2.out _ HV.out).mono ?_
 rintro e v2 ⟨rfl,hb⟩
 have HV:=Lib.hid (below_up HV.out hb)
 clear hb
 go_wp2_with fail
 refine (HHI.out _ HV.out).mono ?_
 rintro e v3 ⟨b,off,c,rfl,hlt,hc0,hc1,hb⟩
 have HV:=Lib.hid (below_up HV.out hb)
 have HC:=Lib.hid (And.intro hlt (And.intro hc0 hc1))
 clear hb hlt hc0 hc1
 go_wp2_with fail
 refine (HLA.out _ HV.out).mono ?_
 rintro e v4 ⟨rfl,hb⟩
 have HV:=Lib.hid (below_up HV.out hb)
 have HB3:=Lib.hid hb
 clear hb
 go_wp2_with fail
 refine (HR1.out _ HV.out).mono ?_
 rintro e v5 ⟨rfl,hb⟩
 have HV:=Lib.hid (below_up HV.out hb)
 have HB3:=Lib.hid (below_up HB3.out hb)
 clear hb
 go_wp2_with fail
 refine (HR2.out _ HV.out).mono ?_
 rintro e v6 ⟨rfl,hb⟩
 have HV:=Lib.hid (below_up HV.out hb)
 have HB3:=Lib.hid (below_up HB3.out hb)
 clear hb
 go_wp2_with fail
 have HALL:=Lib.hid (below_alloc v6 (.cells #[.int .i64 0,.int .i64 2] 3))
 have hnew:=heap_alloc_new v6 (.cells #[.int .i64 0,.int .i64 2] 3)
 refine (Tryz.slices_Equal_int b off 2 c v6.heap.size 0 2 2 [0,2] [0,2] _ (by decide) (by decide) (by decide) (by decide) ?h1 ?h2).mono ?_
 case h1 =>
  intro j hj
  have hbb:=below_up HB3.out HALL.out
  match j,hj with
  | 0,_=>exact (hbb.cell (p:=⟨b,off,none⟩) HC.out.1).trans HC.out.2.1
  | 1,_=>exact (hbb.cell (p:=⟨b,off+1,none⟩) HC.out.1).trans HC.out.2.2
 case h2 =>
  intro j hj
  rw [Nat.zero_add,cell_at hnew j]
  match j,hj with
  | 0,_=>rfl
  | 1,_=>rfl
 rintro e v7 ⟨rfl,q,rfl⟩
 clear hnew
 have HV:=Lib.hid (below_drewN (below_up HV.out HALL.out) q)
 rw [show (([0,2]:List Int).take 2 == ([0,2]:List Int).take 2)=true from by decide]
 go_wp2_with fail
 refine (HCK.out _ HV.out).mono ?_
 rintro e v8 ⟨rfl,hb⟩
 have HV:=Lib.hid (below_up HV.out hb)
 clear hb
 go_wp2
 go_ret
 exact ⟨rfl,below_up HB.out HV.out⟩
end Go.Proofs.YtgopbldkhlmbnaaGreatDoor
