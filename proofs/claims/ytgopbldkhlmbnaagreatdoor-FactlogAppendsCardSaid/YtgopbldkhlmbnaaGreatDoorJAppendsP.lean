/- AppendsP OpenFact -/
import Derived.Test.YtgopbldkhlmbnaaGreatDoorJAppend
import Derived.Test.YtgopbldkhlmbnaaGreatDoorJOpen
set_option maxHeartbeats 16000000
set_option maxRecDepth 100000
namespace Go.Proofs.YtgopbldkhlmbnaaGreatDoor
section
open Go.RowKit Num
theorem lim_ne8 (p q:Bool) (n d:List UInt8):lim p q n d ≠ 8:=by
 unfold lim
 split
 ·decide
 ·split
  ·decide
  ·split <;> decide
theorem pks_ne8 (q:List UInt8):∀ (ps:List PickP) (seen:List (List UInt8)) (s:Int),pks q ps seen s ≠ 8
 | [],_,s=>by unfold pks;split <;> decide
 | p :: r,seen,s=>by
  unfold pks
  split
  ·decide
  ·split
   ·decide
   ·split
    ·exact lim_ne8 _ _ _ _
    ·exact pks_ne8 q r _ _
theorem pickErr_ne8 (f:FactP):pickErr f ≠ 8:=by
 unfold pickErr
 split
 ·decide
 ·exact pks_ne8 _ _ _ _
theorem opts_ne8 (ins:List UInt8) (h1:∀ o,opt1 ins o ≠ 8):∀ os:List OptP,opts ins os ≠ 8
 | []=>by unfold opts;decide
 | o :: r=>by
  unfold opts
  split
  ·exact h1 o
  ·exact opts_ne8 ins h1 r
theorem name_ne8 (l:List UInt8):nameErr l ≠ 8:=by unfold nameErr;split <;> decide
theorem other_ne8 (f:FactP) (c:Bool):otherErr f c ≠ 8:=by
 unfold otherErr
 split
 ·split
  ·split <;> decide
  ·decide
 ·split
  ·split <;> decide
  ·decide
theorem firstLim_ne8:∀ l:List FracP,firstLim l ≠ 8
 | []=>by unfold firstLim;decide
 | f :: r=>by
  unfold firstLim
  split
  ·exact lim_ne8 _ _ _ _
  ·exact firstLim_ne8 r
theorem opt1_ne8 (ins:List UInt8) (o:OptP):opt1 ins o ≠ 8:=by
 unfold opt1
 split
 ·decide
 ·split
  ·decide
  ·split
   ·exact firstLim_ne8 _
   ·unfold optLast
    split <;> decide
theorem optErr_ne8 (f:FactP):optErr f ≠ 8:=by
 unfold optErr
 split
 ·decide
 ·split
  ·decide
  ·exact opts_ne8 _ (opt1_ne8 _) _
theorem fieldErr_ne8 (f:FactP) (k:KindP) (i:Nat):fieldErr f k i ≠ 8:=by
 unfold fieldErr
 split
 ·exact name_ne8 _
 ·split
  ·exact other_ne8 _ _
  ·split
   ·split <;> decide
   ·split
    ·exact name_ne8 _
    ·split
     ·exact pickErr_ne8 _
     ·split
      ·exact optErr_ne8 _
      ·split
       ·split <;> decide
       ·split
        ·exact lim_ne8 _ _ _ _
        ·decide
theorem fieldsErr_ne8 (f:FactP) (k:KindP):∀ l:List Nat,fieldsErr f k l ≠ 8
 | []=>by unfold fieldsErr;decide
 | i :: r=>by
  unfold fieldsErr
  split
  ·unfold fieldBad
   split
   ·exact fieldErr_ne8 _ _ _
   ·split <;> decide
  ·exact fieldsErr_ne8 f k r
theorem fcheck_ne8 (f:FactP):fcheck f ≠ 8:=by
 unfold fcheck
 split
 ·decide
 ·split
  ·decide
  ·split
   ·split <;> decide
   ·split
    ·decide
    ·split
     ·exact fieldsErr_ne8 _ _ _
     ·decide
def lastStamp (prev:Option Int) (fs:List FactP):Option Int:=match fs.getLast? with
 | some g=>some g.stamp
 | none=>prev
theorem lgo_append {f:FactP} (hf:fcheck f=0):∀ {fs:List FactP} {prev:Option Int},lgo prev fs=0→(∀ s,lastStamp prev fs=some s→s≤f.stamp)→lgo prev (fs ++ [f])=0:=by
 intro fs
 induction fs with
 | nil =>
  intro prev _ hs
  rw [List.nil_append]
  unfold lgo
  rw [if_neg (by rw [hf];simp),if_neg]
  ·rfl
  ·cases prev with
   | none=>simp
   | some s=>have:=hs s rfl;simp;omega
 | cons g r ih =>
  intro prev h hs
  rw [List.cons_append]
  unfold lgo at h ⊢
  by_cases h1:fcheck g=0
  ·simp only [h1,ne_eq,not_true_eq_false,if_false] at h ⊢
   split at h
   ·cases h
   ·rename_i h2
    rw [if_neg h2]
    refine ih h fun s e=>hs s ?_
    cases r with
    | nil=>simpa [lastStamp] using e
    | cons y t =>
     unfold lastStamp at e ⊢
     rw [List.getLast?_cons_cons]
     cases hz:(y :: t).getLast? with
     | none=>simp at hz
     | some z=>rw [hz] at e;exact e
  ·rw [if_pos h1] at h;exact absurd h h1
theorem lcheck_append {fs:List FactP} {f:FactP} (h:lcheck fs=0) (hl:fs.length < 1000) (hf:fcheck f=0) (ht:late fs f=false):lcheck (fs ++ [f])=0:=by
 unfold lcheck at h ⊢
 rw [if_neg (by omega)] at h
 rw [if_neg (by simp;omega)]
 refine lgo_append hf h fun s e => ?_
 unfold late at ht
 unfold lastStamp at e
 cases hg:fs.getLast? with
 | none=>rw [hg] at e;cases e
 | some g =>
  rw [hg] at e ht
  injection e with e
  have:¬ f.stamp < g.stamp:=by simpa using ht
  omega
theorem appErr_log {fs:List FactP} {f:FactP} (h:lcheck fs=0) (hl:fs.length < 1000):appErr fs f=if fcheck f ≠ 0 then fcheck f else if late fs f=true then 8 else 0:=by
 unfold appErr
 rw [if_neg (by rw [h];simp),if_neg (by omega)]
end
section
open Go.RowKit Num Dt Go.ChangeShapes Go.WideShapes Go.ChangeAt
section
variable {H:Type} {enc:TypeId × Value→H} {w:World} {base:Nat} {held:Bool}
theorem open_fact {v:Value} {d:DataW H} {ps:List MemPlace} (hv:Value.okWide Tryz.prog w .any base 36 v) (h:DataW.Trod enc Tryz.prog w 0 (fun _=>true) held 36 v d ps) :
  ∃ x:FactV,v = .agg x.arr∧x.f.Behind w x.pa x.oa∧x.fits:=by
 obtain ⟨cs,rfl,_⟩:=okWide_struct Tryz.underlying36 hv
 obtain ⟨n,hn⟩:=h
 obtain ⟨x,e,h1,h2⟩:=open_fact_in hn
 refine ⟨x,?_,h1,h2⟩
 have e2:cs.toList=x.arr.toList:=e
 rw [Array.toList_inj.1 e2]
end
end
end Go.Proofs.YtgopbldkhlmbnaaGreatDoor
