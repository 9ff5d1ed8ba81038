/- FactC LogP Long EqNil -/
import Derived.Test.YtgopbldkhlmbnaaGreatDoorJKinds
import Derived.Test.YtgopbldkhlmbnaaGreatDoorJOpts
import Derived.Test.YtgopbldkhlmbnaaGreatDoorJFact
import Derived.Test.YtgopbldkhlmbnaaGreatDoorJValue
import Derived.Test.YtgopbldkhlmbnaaGreatDoorJEmpty
import Derived.Laws.Rows
set_option maxHeartbeats 16000000
set_option maxRecDepth 100000
namespace Go.Proofs.YtgopbldkhlmbnaaGreatDoor
section
open Go Go.RowKit Go.Maps Go.MapKept Go.WideElems
def nameErr (l:List UInt8):Int:=if isName l=true then 0 else 23
def otherErr (f:FactP) (code:Bool):Int :=
 if code=true then (if isCode f.other=true then (if (f.other == f.cur)=true then 18 else 0) else 12)
 else if isName f.other=true then (if (f.other == f.ins)=true then 18 else 0) else 23
def fieldErr (f:FactP) (k:KindP) (i:Nat):Int :=
 if i=0 then nameErr f.ins else if i=1 then otherErr f k.code else if i=2 then (if isCode f.cur=true then 0 else 12) else if i=3 then nameErr f.target
 else if i=10 then pickErr f else if i=11 then optErr f else if i=12 then (if f.choice < 0 then 2 else 0)
 else match k.nums.find? (fun p=>p.1 == (i:Int)) with
  | some p=>lim p.2.1 p.2.2 (f.num i).n (f.num i).d
  | none=>0
def fieldBad (f:FactP) (k:KindP) (i:Nat):Int:=if k.has.getD i false=true then fieldErr f k i else if f.zero i=true then 0 else 1
def fieldsErr (f:FactP) (k:KindP):List Nat→Int
 | []=>0
 | i :: r=>if fieldBad f k i ≠ 0 then fieldBad f k i else fieldsErr f k r
def FactP.blank (f:FactP):Bool :=
 decide (f.day=0) && decide (f.kind=0) && f.ins.isEmpty && f.other.isEmpty && f.cur.isEmpty && f.target.isEmpty && f.q.isEmpty && f.amt.isEmpty && f.fee.isEmpty && f.price.none && f.ratio.none && f.share.none && decide (f.picks.length=0) && decide (f.options.length=0) && decide (f.choice=0)
def fcheck (f:FactP):Int :=
 if isName f.key=false then 23 else if f.stamp < 0 then 2
 else if f.cancelled=true then (if f.blank=true then 0 else 1)
 else if f.day < -25567∨84005 < f.day then 13
 else match kindList.find? (fun p=>p.1 == f.kind) with
  | some p=>fieldsErr f p.2 (List.range 13)
  | none=>7
end
section
open Go.RowKit Num
def lgo:Option Int→List FactP→Int
 | _,[]=>0
 | prev,f :: r=>if fcheck f ≠ 0 then fcheck f else if prev.any (fun s=>decide (f.stamp < s))=true then 8 else lgo (some f.stamp) r
def lcheck (fs:List FactP):Int:=if 1000 < fs.length then 4 else lgo none fs
def Stamped (fs:List FactP):Prop:=fs.Pairwise (fun a b=>a.stamp≤b.stamp)
theorem lgo_zero {fs:List FactP}:∀ {prev:Option Int},lgo prev fs=0→(∀ f,f∈fs→fcheck f=0)∧Stamped fs∧∀ s,prev=some s→∀ f,f∈fs→s≤f.stamp:=by
 induction fs with
 | nil=>exact fun _=>⟨fun f hf=>by simp at hf,.nil,fun s _ f hf=>by simp at hf⟩
 | cons f r ih =>
  intro prev h
  unfold lgo at h
  by_cases h1:fcheck f=0
  ·simp only [h1,ne_eq,not_true_eq_false,if_false] at h
   by_cases h2:prev.any (fun s=>decide (f.stamp < s))=true
   ·rw [if_pos h2] at h;cases h
   ·rw [if_neg h2] at h
    obtain ⟨i1,i2,i3⟩:=ih h
    have i4:=i3 f.stamp rfl
    refine ⟨fun g hg => ?_,List.pairwise_cons.2 ⟨i4,i2⟩,fun s hs g hg => ?_⟩
    ·rcases List.mem_cons.1 hg with rfl | hg
     ·exact h1
     ·exact i1 g hg
    ·subst hs
     have h3:s≤f.stamp:=by simpa using h2
     rcases List.mem_cons.1 hg with rfl | hg
     ·exact h3
     ·exact Int.le_trans h3 (i4 g hg)
  ·rw [if_pos h1] at h;exact absurd h h1
theorem lcheck_zero {fs:List FactP} (h:lcheck fs=0):fs.length≤1000∧(∀ f,f∈fs→fcheck f=0)∧Stamped fs:=by
 unfold lcheck at h
 split at h
 ·cases h
 ·obtain ⟨h1,h2,_⟩:=lgo_zero h
  exact ⟨by omega,h1,h2⟩
theorem lgo_take {fs:List FactP}:∀ {prev:Option Int},lgo prev fs=0→∀ n,lgo prev (fs.take n)=0:=by
 induction fs with
 | nil=>intro prev _ n;simp [lgo]
 | cons f r ih =>
  intro prev h n
  cases n with
  | zero=>simp [lgo]
  | succ n =>
   unfold lgo at h
   rw [List.take_succ_cons]
   unfold lgo
   by_cases h1:fcheck f=0
   ·simp only [h1,ne_eq,not_true_eq_false,if_false] at h ⊢
    split at h
    ·cases h
    ·rename_i h2
     rw [if_neg h2]
     exact ih h n
   ·rw [if_pos h1] at h;exact absurd h h1
theorem lcheck_take {fs:List FactP} (h:lcheck fs=0) (n:Nat):lcheck (fs.take n)=0:=by
 have h1:=(lcheck_zero h).1
 unfold lcheck at h ⊢
 rw [if_neg (by omega)] at h
 rw [if_neg (by simp;omega)]
 exact lgo_take h n
def knownN (fs:List FactP) (a:Int):Nat:=fs.countP (fun f=>decide (f.stamp≤a))
theorem known_le (fs:List FactP) (a:Int):knownN fs a≤fs.length:=List.countP_le_length
theorem known_iff {fs:List FactP} (hs:Stamped fs) (a:Int):∀ (i:Nat) (f:FactP),fs[i]? = some f→(i < knownN fs a ↔ f.stamp≤a):=by
 unfold Stamped at hs
 induction fs with
 | nil=>intro i f h;simp at h
 | cons g r ih =>
  obtain ⟨h1,h2⟩:=List.pairwise_cons.1 hs
  intro i f h
  unfold knownN
  rw [List.countP_cons]
  by_cases hg:g.stamp≤a
  ·cases i with
   | zero=>simp at h;subst h;simp [hg]
   | succ i =>
    have:=ih h2 i f (by simpa using h)
    unfold knownN at this
    simp only [hg,decide_true,if_true]
    omega
  ·have h0:r.countP (fun f=>decide (f.stamp≤a))=0:=by
    rw [List.countP_eq_zero]
    intro x hx
    have:=h1 x hx
    simp;omega
   have hf:g.stamp≤f.stamp:=by
    cases i with
    | zero=>simp at h;subst h;omega
    | succ i=>exact h1 f (List.mem_of_getElem? (by simpa using h))
   rw [h0]
   simp [hg]
   omega
end
section
open Go Go.RowKit Num
theorem long01_any (l:List UInt8) (w:World) :
  Calls Tryz.prog 46 #[.string ⟨l.toArray⟩] w fun e w'=>e = .returned (.bool (decide (13 < l.length)))∧w=w':=by
 have hd:decide (13 < l.length)=decide ((13:Int) < (l.length:Int)):=by rw [decide_eq_decide];omega
 rw [hd]
 go_enter Tryz.func46,Tryz.ntmps46
 go_wp2
 go_ret
 exact ⟨rfl,rfl⟩
theorem long02_one (n d:List UInt8) (b c:Nat) (w:World) (h0:w.cell? ⟨b,0,none⟩=some (.string ⟨n.toArray⟩)) (h1:w.cell? ⟨b,1,none⟩=some (.string ⟨d.toArray⟩)) :
  Calls Tryz.prog 71 #[.slice (some ⟨b,0,none⟩) 1 c] w fun e w'=>e = .returned (.bool (decide (13 < n.length) || decide (13 < d.length)))∧Below w.heap.size w w':=by
 have hd:decide (13 < n.length)=decide ((13:Int) < (n.length:Int)):=by rw [decide_eq_decide];omega
 have hd':decide (13 < d.length)=decide ((13:Int) < (d.length:Int)):=by rw [decide_eq_decide];omega
 rw [hd,hd']
 clear hd hd'
 cases hn:decide ((13:Int) < (n.length:Int)) <;> cases hm:decide ((13:Int) < (d.length:Int))
 all_goals
  go_enter Tryz.func71,Tryz.ntmps71
  go_wp2_with fail
  go_loopw [3] (fun iv wr=>w=wr∧(iv = .int .i64 0∨(iv = .int .i64 1∧(decide ((13:Int) < (n.length:Int)) || decide ((13:Int) < (d.length:Int)))=false))) (fun iv _=>1 - (intOf iv).toNat)
  case atStart=>exact ⟨rfl,.inl rfl⟩
  case round =>
   obtain ⟨rfl,rfl | ⟨rfl,hb⟩⟩:=hrel
   ·go_wp2
    first
     | (go_ret;exact ⟨rfl,Below.refl _ _⟩)
     | exact ⟨⟨trivial,.inr ⟨rfl,by rw [hn,hm];rfl⟩⟩,by simp [intOf]⟩
   ·first
     | (rw [hn,hm] at hb;simp at hb;done)
     | (go_wp2;go_ret;exact ⟨rfl,Below.refl _ _⟩)
theorem long13_any (f:FracP) (w:World) :
  Calls Tryz.prog 47 #[f.agg] w fun e w'=>e = .returned (.bool (decide (13 < f.n.length) || decide (13 < f.d.length)))∧Below w.heap.size w w':=by
 unfold FracP.agg
 obtain ⟨n,d⟩:=f
 dsimp only
 have KX:=(Box.new0 w #[.string ⟨n.toArray⟩,.string ⟨d.toArray⟩] 32)
 have k0:=KX.cell 0
 have k1:=KX.cell 1
 have HL:=Lib.hid (fun b c W h0 h1=>long02_one n d b c W h0 h1)
 generalize (decide (13 < n.length) || decide (13 < d.length))=r at *
 clear KX
 go_enter Tryz.func47,Tryz.ntmps47
 go_wp2_with fail
 have KY:=Box.new0 (w.alloc (.cells #[.string ⟨n.toArray⟩,.string ⟨d.toArray⟩] 32)) #[.string ⟨n.toArray⟩,.string ⟨d.toArray⟩] 32
 rw [World.size_alloc] at KY
 refine (HL.out _ _ _ (KY.cell 0) (KY.cell 1)).mono ?_
 rintro e w1 ⟨rfl,hb⟩
 go_wp2
 go_ret
 exact ⟨rfl,below_up (((Below.refl w.heap.size w).alloc (Nat.le_refl _) _).alloc (by simp) _) hb⟩
end
section
open Go Go.RowKit Num
def blankCells (key:List UInt8) (stamp:Int) (c:Bool):Array Value:=#[.string ⟨key.toArray⟩,.int .i64 stamp,.bool c,.int .i64 0,.int .i64 0,.string ⟨#[]⟩,.string ⟨#[]⟩,.string ⟨#[]⟩,.string ⟨#[]⟩,.string ⟨#[]⟩,.string ⟨#[]⟩,.string ⟨#[]⟩,.string ⟨#[]⟩,.string ⟨#[]⟩,.string ⟨#[]⟩,.string ⟨#[]⟩,.string ⟨#[]⟩,.string ⟨#[]⟩,.slice none 0 0,.slice none 0 0,.int .i64 0]
theorem eqNil_picks (a:Option Addr) (n c:Nat) (r:Bool) (hr:r=decide (n=0)) (w:World) :
  Calls Tryz.prog 89 #[.slice a n c,.slice none 0 0] w fun e w'=>e = .returned (.bool r)∧Below w.heap.size w w':=by
 subst hr
 cases n with
 | zero =>
  go_enter Tryz.func89,Tryz.ntmps89
  go_wp2
  refine wp_loop_once ?_
  go_wp2
  go_ret
  exact ⟨rfl,Below.refl _ _⟩
 | succ n =>
  have hn:((n:Int)+1 == 0)=false:=by simp;omega
  go_enter Tryz.func89,Tryz.ntmps89
  go_wp2
  go_ret
  exact ⟨rfl,Below.refl _ _⟩
theorem eqNil_options (a:Option Addr) (n c:Nat) (r:Bool) (hr:r=decide (n=0)) (w:World) :
  Calls Tryz.prog 90 #[.slice a n c,.slice none 0 0] w fun e w'=>e = .returned (.bool r)∧Below w.heap.size w w':=by
 subst hr
 cases n with
 | zero =>
  go_enter Tryz.func90,Tryz.ntmps90
  go_wp2
  refine wp_loop_once ?_
  go_wp2
  go_ret
  exact ⟨rfl,Below.refl _ _⟩
 | succ n =>
  have hn:((n:Int)+1 == 0)=false:=by simp;omega
  go_enter Tryz.func90,Tryz.ntmps90
  go_wp2
  go_ret
  exact ⟨rfl,Below.refl _ _⟩
end
end Go.Proofs.YtgopbldkhlmbnaaGreatDoor
