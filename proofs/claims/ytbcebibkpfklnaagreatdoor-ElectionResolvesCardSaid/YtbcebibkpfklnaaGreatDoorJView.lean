/- ViewP ElectP -/
import Derived.Test.YtbcebibkpfklnaaGreatDoorJFactC
import Derived.Test.YtbcebibkpfklnaaGreatDoorJAdd
set_option maxHeartbeats 16000000
set_option maxRecDepth 100000
namespace Go.Proofs.YtbcebibkpfklnaaGreatDoor
section
open Go.RowKit Num
def clsOf (k:Int):Int:=match kindList.find? (fun p=>p.1 == k) with
 | some p=>p.2.cls
 | none=>0
def cmpL (a b:List UInt8):Int:=if a < b then -1 else if b < a then 1 else 0
def cmpF (a b:FactP):Int:=if cmpI a.day b.day ≠ 0 then cmpI a.day b.day else if cmpI (clsOf a.kind) (clsOf b.kind) ≠ 0 then cmpI (clsOf a.kind) (clsOf b.kind) else cmpL a.key b.key
theorem cmpI_none {a b:Int}:cmpI a b=0 ↔ a=b:=by
 unfold cmpI
 split
 ·simp;omega
 ·split
  ·simp;omega
  ·simp;omega
theorem cmpL_lt {a b:List UInt8}:cmpL a b < 0 ↔ a < b:=by
 unfold cmpL
 split
 ·simp [*]
 ·split <;> simp [*]
def vgo:List (List UInt8)→Option FactP→List FactP→Int
 | _,_,[]=>0
 | seen,prev,f :: r =>
  if fcheck f ≠ 0 then fcheck f else if f.cancelled=true then 19 else if f.stamp ≠ 0 then 1 else if seen.contains f.key=true then 5
  else if prev.any (fun p=>decide (0≤cmpF p f))=true then 8 else vgo (seen ++ [f.key]) (some f) r
def vcheck (fs:List FactP):Int:=if 1000 < fs.length then 4 else vgo [] none fs
theorem vgo_at {fs:List FactP} {k:Nat} {f:FactP} (h:fs[k]? = some f):vgo ((fs.take k).map (·.key)) (if k=0 then none else fs[k - 1]?) (fs.drop k) =
  (if fcheck f ≠ 0 then fcheck f else if f.cancelled=true then 19 else if f.stamp ≠ 0 then 1 else if ((fs.take k).map (·.key)).contains f.key=true then 5
  else if (if k=0 then none else fs[k - 1]?).any (fun p=>decide (0≤cmpF p f))=true then 8 else vgo ((fs.take (k+1)).map (·.key)) (if k+1=0 then none else fs[k+1 - 1]?) (fs.drop (k+1))):=by
 obtain ⟨hl,he⟩:=List.getElem?_eq_some_iff.1 h
 have e1:(if k+1=0 then none else fs[k+1 - 1]?)=some f:=by rw [if_neg (by omega),Nat.add_sub_cancel,h]
 have e2:(fs.take (k+1)).map (·.key)=(fs.take k).map (·.key) ++ [f.key]:=by rw [List.take_add_one,h,List.map_append];rfl
 rw [e1,e2,List.drop_eq_getElem_cons hl,he]
 rfl
def elects (x f:FactP):Bool:=decide (x.kind=11) && (x.target == f.key) && (x.ins == f.ins) && decide (x.day≤f.day) && decide (x.choice < f.options.length)
def lastElect (fs:List FactP) (f:FactP):Option FactP:=(fs.filter fun x=>elects x f).getLast?
def chosen (fs:List FactP) (f:FactP):Int:=match lastElect fs f with
 | some x=>x.choice
 | none=>0
theorem lastElect_mem {fs:List FactP} {f x:FactP} (h:lastElect fs f=some x):x∈fs∧elects x f=true:=by
 have:=List.mem_of_getLast? h
 exact List.mem_filter.1 this
def xcheck (f:FactP):Int:=if fcheck f ≠ 0 then fcheck f else if f.kind ≠ 10 then 7 else 0
def choiceErr (fs:List FactP) (f:FactP):Int:=if vcheck fs ≠ 0∨xcheck f ≠ 0 then 1 else 0
def choiceV (fs:List FactP) (f:FactP):Int:=if choiceErr fs f ≠ 0 then 0 else chosen fs f
end
section
open Go.RowKit Num
theorem cmpF_lt {a b:FactP}:cmpF a b < 0 ↔ a.day < b.day∨(a.day=b.day∧(clsOf a.kind < clsOf b.kind∨(clsOf a.kind=clsOf b.kind∧a.key < b.key))):=by
 unfold cmpF
 by_cases h1:a.day=b.day
 ·rw [if_neg (by rw [Decidable.not_not,cmpI_none];exact h1)]
  by_cases h2:clsOf a.kind=clsOf b.kind
  ·rw [if_neg (by rw [Decidable.not_not,cmpI_none];exact h2),cmpL_lt]
   simp [h1,h2]
  ·rw [if_pos (by rw [ne_eq,cmpI_none];exact h2),cmpI_lt]
   simp [h1,h2]
 ·rw [if_pos (by rw [ne_eq,cmpI_none];exact h1),cmpI_lt]
  simp [h1]
theorem cmpF_trans {a b c:FactP} (h1:cmpF a b < 0) (h2:cmpF b c < 0):cmpF a c < 0:=by
 rw [cmpF_lt] at *
 rcases h1 with h1 | ⟨h1,h1' | ⟨h1',h1''⟩⟩ <;> rcases h2 with h2 | ⟨h2,h2' | ⟨h2',h2''⟩⟩
 all_goals first
  | exact .inl (by omega)
  | exact .inr ⟨by omega,.inl (by omega)⟩
  | exact .inr ⟨by omega,.inr ⟨by omega,List.lt_trans h1'' h2''⟩⟩
theorem vgo_iff {fs:List FactP}:∀ {seen:List (List UInt8)} {prev:Option FactP},vgo seen prev fs=0 ↔ ((∀ f,f∈fs→fcheck f=0∧f.cancelled=false∧f.stamp=0)∧(∀ f,f∈fs→f.key ∉ seen)∧(fs.map (·.key)).Nodup∧fs.Pairwise (fun a b=>cmpF a b < 0)∧∀ p,prev=some p→∀ f,f∈fs→cmpF p f < 0):=by
 induction fs with
 | nil=>intro seen prev;simp [vgo]
 | cons f r ih =>
  intro seen prev
  have e:vgo seen prev (f :: r)=0 ↔ (fcheck f=0∧f.cancelled=false∧f.stamp=0)∧f.key ∉ seen∧(∀ p,prev=some p→cmpF p f < 0)∧vgo (seen ++ [f.key]) (some f) r=0:=by
   rw [show vgo seen prev (f :: r)=(if fcheck f ≠ 0 then fcheck f else if f.cancelled=true then 19 else if f.stamp ≠ 0 then 1 else if seen.contains f.key=true then 5 else if prev.any (fun p=>decide (0≤cmpF p f))=true then 8 else vgo (seen ++ [f.key]) (some f) r) from rfl]
   generalize vgo (seen ++ [f.key]) (some f) r=nx
   by_cases h1:fcheck f=0
   ·rw [if_neg (by simpa using h1)]
    by_cases h2:f.cancelled=true
    ·rw [if_pos h2];simp [h2]
    ·rw [if_neg h2]
     have h2':f.cancelled=false:=by simpa using h2
     by_cases h3:f.stamp=0
     ·rw [if_neg (by simpa using h3)]
      by_cases h4:f.key∈seen
      ·rw [if_pos (by simpa using h4)];simp [h4]
      ·rw [if_neg (by simpa using h4)]
       cases prev with
       | none=>simp [h1,h2',h3,h4]
       | some p =>
        by_cases h5:0≤cmpF p f
        ·rw [if_pos (by simpa using h5)]
         simp
         omega
        ·rw [if_neg (by simpa using h5)]
         simp [h1,h2',h3,h4]
         omega
     ·rw [if_pos (by simpa using h3)];simp [h3]
   ·rw [if_pos h1];simp [h1]
  rw [e,ih]
  constructor
  ·rintro ⟨h1,h2,h3,h4,h5,h6,h7,h8⟩
   refine ⟨?_,?_,?_,List.pairwise_cons.2 ⟨h8 f rfl,h7⟩,?_⟩
   ·intro g hg
    rcases List.mem_cons.1 hg with rfl | hg
    ·exact h1
    ·exact h4 g hg
   ·intro g hg
    rcases List.mem_cons.1 hg with rfl | hg
    ·exact h2
    ·exact fun hm=>h5 g hg (List.mem_append_left _ hm)
   ·rw [List.map_cons,List.nodup_cons]
    refine ⟨fun hm => ?_,h6⟩
    obtain ⟨g,hg,eg⟩:=List.mem_map.1 hm
    exact h5 g hg (by rw [eg];simp)
   ·intro p hp g hg
    rcases List.mem_cons.1 hg with rfl | hg
    ·exact h3 p hp
    ·exact cmpF_trans (h3 p hp) (h8 f rfl g hg)
  ·rintro ⟨h1,h2,h3,h4,h5⟩
   rw [List.map_cons,List.nodup_cons] at h3
   obtain ⟨h6,h7⟩:=List.pairwise_cons.1 h4
   refine ⟨h1 f (by simp),h2 f (by simp),fun p hp=>h5 p hp f (by simp),fun g hg=>h1 g (by simp [hg]),fun g hg hm => ?_,h3.2,h7,fun p hp g hg=>by injection hp with hp;subst hp;exact h6 g hg⟩
   rcases List.mem_append.1 hm with hm | hm
   ·exact h2 g (by simp [hg]) hm
   ·rw [List.mem_singleton] at hm
    exact h3.1 (List.mem_map.2 ⟨g,hg,hm⟩)
theorem vcheck_iff {fs:List FactP}:vcheck fs=0 ↔ fs.length≤1000∧(∀ f,f∈fs→fcheck f=0∧f.cancelled=false∧f.stamp=0)∧(fs.map (·.key)).Nodup∧fs.Pairwise (fun a b=>cmpF a b < 0):=by
 unfold vcheck
 by_cases h:1000 < fs.length
 ·rw [if_pos h]
  constructor
  ·intro h;cases h
  ·intro h';omega
 ·rw [if_neg h,vgo_iff]
  constructor
  ·rintro ⟨h1,_,h3,h4,_⟩
   exact ⟨by omega,h1,h3,h4⟩
  ·rintro ⟨_,h1,h3,h4⟩
   exact ⟨h1,by simp,h3,h4,by simp⟩
theorem fieldsErr_zero {f:FactP} {k:KindP} {l:List Nat}:fieldsErr f k l=0 ↔ ∀ i,i∈l→fieldBad f k i=0:=by
 induction l with
 | nil=>simp [fieldsErr]
 | cons i r ih =>
  unfold fieldsErr
  by_cases h:fieldBad f k i=0
  ·rw [if_neg (by simpa using h),ih];simp [h]
  ·rw [if_pos h];simp [h]
theorem fcheck_live {f:FactP} (h:fcheck f=0) (hk:f.kind ≠ 0):f.cancelled=false:=by
 cases hc:f.cancelled with
 | false=>rfl
 | true =>
  exfalso
  unfold fcheck at h
  rw [if_neg (by intro e;rw [if_pos e] at h;cases h)] at h
  rw [if_neg (by intro e;rw [if_pos e] at h;cases h),if_pos hc] at h
  split at h
  ·rename_i hb
   unfold FactP.blank at hb
   simp [hk] at hb
  ·cases h
theorem fcheck_iff {f:FactP} (hc:f.cancelled=false):fcheck f=0 ↔ isName f.key=true∧0≤f.stamp∧(-25567≤f.day∧f.day≤84005)∧∃ q,kindList.find? (fun p=>p.1 == f.kind)=some q∧∀ i,i < 13→fieldBad f q.2 i=0:=by
 unfold fcheck
 cases hn:isName f.key with
 | false=>simp
 | true =>
  simp only [Bool.true_eq_false,if_false,true_and]
  by_cases h1:f.stamp < 0
  ·rw [if_pos h1];constructor
   ·intro h;cases h
   ·intro h;omega
  ·rw [if_neg h1,if_neg (by simp [hc])]
   by_cases h2:f.day < -25567∨84005 < f.day
   ·rw [if_pos h2];constructor
    ·intro h;cases h
    ·intro h;omega
   ·rw [if_neg h2]
    cases hq:kindList.find? (fun p=>p.1 == f.kind) with
    | none=>simp
    | some q =>
     simp only [fieldsErr_zero,List.mem_range]
     constructor
     ·exact fun h=>⟨by omega,by omega,q,rfl,h⟩
     ·rintro ⟨_,_,q',e,h⟩
      injection e with e
      subst e
      exact h
theorem kind11:((kindList.find? (fun p=>p.1 == (11:Int))).map fun q=>(q.2.has.getD 12 false,q.2.has.getD 3 false,q.2.has.getD 0 false))=some (true,true,true):=by decide +kernel
theorem kind10:((kindList.find? (fun p=>p.1 == (10:Int))).map fun q=>(q.2.has.getD 11 false,q.2.has.getD 0 false))=some (true,true):=by decide +kernel
theorem elect_choice {x:FactP} (h:fcheck x=0) (hk:x.kind=11):0≤x.choice:=by
 obtain ⟨_,_,_,q,hq,hf⟩:=(fcheck_iff (fcheck_live h (by rw [hk];decide))).1 h
 have k:=kind11
 rw [← hk,hq] at k
 simp only [Option.map_some,Option.some.injEq,Prod.mk.injEq] at k
 have:=hf 12 (by decide)
 unfold fieldBad at this
 rw [if_pos k.1] at this
 have e:fieldErr x q.2 12=if x.choice < 0 then 2 else 0:=rfl
 rw [e] at this
 split at this
 ·cases this
 ·omega
theorem exch_options {f:FactP} (h:fcheck f=0) (hk:f.kind=10):optErr f=0:=by
 obtain ⟨_,_,_,q,hq,hf⟩:=(fcheck_iff (fcheck_live h (by rw [hk];decide))).1 h
 have k:=kind10
 rw [← hk,hq] at k
 simp only [Option.map_some,Option.some.injEq,Prod.mk.injEq] at k
 have:=hf 11 (by decide)
 unfold fieldBad at this
 rw [if_pos k.1] at this
 exact this
theorem opts_zero {ins:List UInt8} {l:List OptP}:opts ins l=0 ↔ ∀ o,o∈l→opt1 ins o=0:=by
 induction l with
 | nil=>simp [opts]
 | cons o r ih =>
  unfold opts
  by_cases h:opt1 ins o=0
  ·rw [if_neg (by simpa using h),ih];simp [h]
  ·rw [if_pos h];simp [h]
theorem xcheck_zero {f:FactP} (h:xcheck f=0):fcheck f=0∧f.kind=10:=by
 unfold xcheck at h
 split at h
 ·rename_i h1;exact absurd h h1
 ·rename_i h1
  split at h
  ·cases h
  ·rename_i h2
   exact ⟨by simpa using h1,by simpa using h2⟩
theorem xcheck_some {f:FactP} (h:xcheck f=0):1≤f.options.length∧f.options.length≤8∧∀ o,o∈f.options→opt1 f.ins o=0:=by
 have:=exch_options (xcheck_zero h).1 (xcheck_zero h).2
 unfold optErr at this
 split at this
 ·cases this
 ·split at this
  ·cases this
  ·exact ⟨by omega,by omega,opts_zero.1 this⟩
theorem chosen_range {fs:List FactP} {f:FactP} (hv:vcheck fs=0) (hx:xcheck f=0):0≤chosen fs f∧chosen fs f < f.options.length:=by
 unfold chosen
 cases h:lastElect fs f with
 | none=>exact ⟨Int.le_refl _,by have:=(xcheck_some hx).1;show (0:Int) < _;omega⟩
 | some x =>
  obtain ⟨hm,he⟩:=lastElect_mem h
  have:=(vcheck_iff.1 hv).2.1 x hm
  unfold elects at he
  simp only [Bool.and_eq_true,decide_eq_true_eq] at he
  exact ⟨elect_choice this.1 he.1.1.1.1,he.2⟩
def oneOpt (f:FactP) (o:OptP):FactP:={ f with options:=[o] }
theorem oneOpt_bad (f:FactP) (o:OptP) (k:KindP) {i:Nat} (h:i < 13) (hi:i ≠ 11):fieldBad (oneOpt f o) k i=fieldBad f k i:=by
 match i,h,hi with
 | 0,_,_=>rfl
 | 1,_,_=>rfl
 | 2,_,_=>rfl
 | 3,_,_=>rfl
 | 4,_,_=>rfl
 | 5,_,_=>rfl
 | 6,_,_=>rfl
 | 7,_,_=>rfl
 | 8,_,_=>rfl
 | 9,_,_=>rfl
 | 10,_,_=>rfl
 | 11,_,h=>exact absurd rfl h
 | 12,_,_=>rfl
 | n+13,h,_=>omega
theorem oneOpt_check {f:FactP} {o:OptP} (h:xcheck f=0) (ho:o∈f.options):xcheck (oneOpt f o)=0:=by
 obtain ⟨h1,h2⟩:=xcheck_zero h
 have hc:=fcheck_live h1 (by rw [h2];decide)
 have h3:fcheck (oneOpt f o)=0:=by
  obtain ⟨a1,a2,a3,q,hq,hf⟩:=(fcheck_iff hc).1 h1
  refine (fcheck_iff (f:=oneOpt f o) hc).2 ⟨a1,a2,a3,q,hq,fun i hi => ?_⟩
  by_cases e:i=11
  ·subst e
   have k:=kind10
   rw [← h2,hq] at k
   simp only [Option.map_some,Option.some.injEq,Prod.mk.injEq] at k
   unfold fieldBad
   rw [if_pos k.1]
   show optErr (oneOpt f o)=0
   unfold optErr
   rw [if_neg (by simp [oneOpt]),if_neg (by simp [oneOpt])]
   exact opts_zero.2 fun o' ho'=>by
    have:o'=o:=by simpa [oneOpt] using ho'
    subst this
    exact (xcheck_some h).2.2 o' ho
  ·rw [oneOpt_bad f o q.2 hi e];exact hf i hi
 unfold xcheck
 rw [if_neg (by simpa using h3),if_neg (by simpa [oneOpt] using h2)]
theorem chosen_one {fs:List FactP} {f:FactP} (hv:vcheck fs=0) (hx:xcheck f=0) (hl:f.options.length=1):chosen fs f=0:=by
 have:=chosen_range hv hx
 omega
def counted (fs:List FactP) (x:FactP):Bool:=fs.any fun f=>decide (f.kind=10) && (lastElect fs f).any fun y=>y.key == x.key
def lateL (fs:List FactP):List FactP:=fs.filter fun x=>decide (x.kind=11) && !counted fs x
end
end Go.Proofs.YtbcebibkpfklnaaGreatDoor
