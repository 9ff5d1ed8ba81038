/- Log0 Log1 Log2 AwakeA -/
import Derived.Test.YtgopbldkhlmbnaaGreatDoorJCheck3
import Derived.Test.YtgopbldkhlmbnaaGreatDoorJFactC
import Derived.Test.YtgopbldkhlmbnaaGreatDoorJOpen
import Derived.BigQuiet
set_option maxHeartbeats 16000000
set_option maxRecDepth 100000
namespace Go.Proofs.YtgopbldkhlmbnaaGreatDoor
section
open Go Go.RowKit Num
theorem run_loadVar_at {P:Program} (w:World) (b o:Nat) (ty:TypeId) (cs:Array Value) (d:TypeDesc) (hc:∀ j v,cs.toList[j]? = some v→w.cell? ⟨b,o+j,none⟩=some v)
  (hu:P.underlying ty=some d) (hd:(match d with | .struct _ | .array _ _=>true | _=>false)=true) (hi:(P.info? ty).map (·.size)=some cs.size) :
  (loadVar ty ⟨b,o,none⟩).run P w = .ok (.agg cs) w:=by
 have hl:(loadCells ⟨b,o,none⟩ cs.toList.length).run P w = .ok cs.toList.toArray w :=
  run_loadCells_list (P:=P) w ⟨b,o,none⟩ cs.toList (fun j v hv=>by
   have hadd:(⟨b,o,none⟩:Addr).add j=⟨b,o+j,none⟩:=by unfold Addr.add;split <;> simp_all
   rw [hadd]
   exact hc j v hv)
 cases hq:P.info? ty with
 | none=>simp [hq] at hi
 | some i =>
  have hs:i.size=cs.size:=by simpa [hq] using hi
  have hagg:(isAgg ty).run P w = .ok true w:=by
   unfold isAgg
   rw [Sem.run_bind,run_underlying hu w]
   cases d <;> simp_all
  simp only [Array.length_toList,Array.toArray_toList] at hl
  simp [loadVar,Sem.run_bind,hagg,sizeOf,typeInfo,hq,hs,hl]
theorem wpList_load_at {P:Program} {ops:Array Oper} {rest:List Oper} {o:Oper} {a:Act} {w:World} {Q:Exit→Act→World→Prop} (hgd:o.guard=none) (ty:TypeId) (x:Operand) (ho:o.op = .load ty x)
  (b off:Nat) (hx:a.eval x = .pointer (some ⟨b,off,none⟩)) (cs:Array Value) (d:TypeDesc) (hc:∀ j v,cs.toList[j]? = some v→w.cell? ⟨b,off+j,none⟩=some v)
  (hu:P.underlying ty=some d) (hd:(match d with | .struct _ | .array _ _=>true | _=>false)=true) (hi:(P.info? ty).map (·.size)=some cs.size)
  (h:wpList P ops Q rest (a.put o.dst (.agg cs)) w):wpList P ops Q (o :: rest) a w:=by
 refine wpList_plain hgd fun K hK => ?_
 unfold Oper.wp execOp
 simp only [ho,hx,Instr.loadAt,Instr.sureAddr,Sem.run_bind,Sem.run_pure,Result.andThen_ok,run_loadVar_at w b off ty cs d hc hu hd hi]
 exact hK _ _ h
theorem cells_one (x:FactV):x.arr.all (·.oneCell')=true:=by simp [FactV.arr,FactP.cells,Value.oneCell']
structure FactV.ok (x:FactV):Prop where
 small:x.f.small
 cap:x.f.picks.length≤x.pc
def Z21:Array Value:=#[.string ⟨#[]⟩,.int .i64 0,.bool false,.int .i64 0,.int .i64 0,.string ⟨#[]⟩,.string ⟨#[]⟩,.string ⟨#[]⟩,.string ⟨#[]⟩,.string ⟨#[]⟩,.string ⟨#[]⟩,.string ⟨#[]⟩,.string ⟨#[]⟩,.string ⟨#[]⟩,.string ⟨#[]⟩,.string ⟨#[]⟩,.string ⟨#[]⟩,.string ⟨#[]⟩,.slice none 0 0,.slice none 0 0,.int .i64 0]
def prevOf (fs:List FactP) (k:Nat):Option Int:=if k=0 then none else (fs[k - 1]?).map (·.stamp)
theorem lgo_at {fs:List FactP} {k:Nat} {f:FactP} (h:fs[k]? = some f):lgo (prevOf fs k) (fs.drop k)=if fcheck f ≠ 0 then fcheck f else if (prevOf fs k).any (fun s=>decide (f.stamp < s))=true then 8 else lgo (prevOf fs (k+1)) (fs.drop (k+1)):=by
 obtain ⟨hl,he⟩:=List.getElem?_eq_some_iff.1 h
 have e:prevOf fs (k+1)=some f.stamp:=by unfold prevOf;rw [if_neg (by omega)];simp [h]
 rw [e,List.drop_eq_getElem_cons hl,he]
 rfl
theorem logCheck_any (xs:List FactV) (a:Option Addr) (c:Nat) (w:World) (hE:Env w) (hn:xs.length≤1000000) (hr:Facts w a xs) (hok:∀ x,x∈xs→x.ok) :
  Calls Tryz.prog 11 #[.slice a xs.length c] w fun e w'=>e = .returned (.int .i64 (lcheck (xs.map FactV.f)))∧Below w.heap.size w w':=by
 obtain ⟨res,hres⟩:∃ res,res=lcheck (xs.map FactV.f):=⟨_,rfl⟩
 rw [← hres]
 unfold lcheck at hres
 rw [List.length_map] at hres
 have HE:=Lib.hid hE
 have HR:=Lib.hid hr
 have HOK:=Lib.hid hok
 by_cases hbig:1000 < xs.length
 ·rw [if_pos hbig] at hres
  have HV:=Lib.hid hres
  clear hres hE hr hok
  generalize xs.length=n at *
  go_enter Tryz.func11,Tryz.ntmps11
  go_wp2
  go_ret
  exact ⟨by rw [HV.out];rfl,Below.refl _ _⟩
 ·rw [if_neg hbig] at hres
  have HV:Hid (res=lgo (prevOf (xs.map FactV.f) 0) ((xs.map FactV.f).drop 0)):=hres
  clear hres hE hr hok
  go_enter Tryz.func11,Tryz.ntmps11
  go_wp2_with fail
  go_loopw [11] (fun iv wr => ∃ k:Nat,k≤xs.length∧iv = .int .i64 k∧Hid (res=lgo (prevOf (xs.map FactV.f) k) ((xs.map FactV.f).drop k))∧Hid (Below w.heap.size w wr)) (fun iv _=>xs.length - (intOf iv).toNat)
  case atStart=>exact ⟨0,Nat.zero_le _,rfl,HV,Below.refl _ _⟩
  case round =>
   clear HV
   obtain ⟨k,hk,rfl,HS,HB⟩:=hrel
   by_cases hlt:k < xs.length
   ·obtain ⟨x,hx⟩:∃ x,xs[k]? = some x:=⟨xs[k],List.getElem?_eq_getElem hlt⟩
    obtain ⟨b,off,rfl,hbl,hc⟩:=HR.out.1.addr (k:=k) (cs:=x.cells) (by rw [List.getElem?_map,hx];rfl)
    have hxm:=List.mem_of_getElem? hx
    have HX:=Lib.hid (And.intro (HOK.out x hxm) (HR.out.2 x hxm))
    have hfk:(xs.map FactV.f)[k]? = some x.f:=by rw [List.getElem?_map,hx];rfl
    have HS2:=Lib.hid (HS.out.trans (lgo_at hfk))
    have HC:Hid (∀ j v,x.arr.toList[j]? = some v→wr.cell? ⟨b,off+k * 21+j,none⟩=some v):=fun j v hv=>(HB.out.cell (p:=⟨b,off+k * 21+j,none⟩) hbl).trans (hc j v hv)
    have HSZ:Hid ((Tryz.prog.info? 36).map (·.size)=some x.arr.size):=factSize x.f x.pa x.oa x.pc x.oc
    have HONE:=Lib.hid (cells_one x)
    have HCK:Hid (∀ W,Below w.heap.size w W→Calls Tryz.prog 41 #[.agg x.arr] W fun e w'=>e = .returned (.int .i64 (fcheck x.f))∧Below W.heap.size W w'):=fun W hbw=>factCheck_any x.f x.pa x.oa x.pc x.oc W (HE.out.below hbw) HX.out.1.small HX.out.1.cap (HX.out.2.below hbw)
    have HST:Hid (x.arr[1]? = some (.int .i64 x.f.stamp)):=rfl
    have hsz21:x.arr.size=21:=rfl
    clear HS hc
    generalize x.arr=fc at *
    have KBr:Hid (Box ((wr.alloc (.cells Z21 36)).setRow wr.heap.size fc) wr.heap.size fc 36):=⟨by simp [World.setRow],setRow_heap _ _ _ _ _ _ (heap_alloc_new wr (.cells Z21 36))⟩
    have HBr:Hid (Below w.heap.size w ((wr.alloc (.cells Z21 36)).setRow wr.heap.size fc)):=below_setRow (below_up HB.out (below_alloc _ _)) HB.out.size fc
    have HS21:Hid (Z21.size=fc.size):=hsz21.symm
    have HNEW:=Lib.hid (heap_alloc_new wr (.cells Z21 36))
    clear hsz21
    go_wp2_with (first | (refine wpList_load_at rfl 36 _ rfl b (off+k * 21) rfl fc _ HC.out Tryz.underlying36 rfl HSZ.out ?_) | (refine wpList_store_row rfl 36 _ _ rfl wr.heap.size fc rfl rfl 36 Z21 HNEW.out HSZ.out HS21.out HONE.out ?_) | (refine wpList_load_row rfl 36 _ rfl wr.heap.size rfl 36 fc (0,0) _ KBr.out.2 Tryz.underlying36 rfl HSZ.out ?_))
    refine (HCK.out _ HBr.out).mono ?_
    rintro e w2 ⟨rfl,hb2⟩
    have HB2:=Lib.hid (below_up HBr.out hb2)
    have c1:=((KBr.out.below hb2).cell 1).trans HST.out
    clear hb2 HC HSZ HONE HCK HST HS21 HNEW KBr HBr
    generalize fcheck x.f=fe at *
    by_cases he:fe=0
    ·subst he
     have HS3:Hid (res=if Option.any (fun s=>decide (x.f.stamp < s)) (prevOf (xs.map FactV.f) k)=true then 8 else lgo (prevOf (xs.map FactV.f) (k+1)) ((xs.map FactV.f).drop (k+1))):=by show _=_;rw [HS2.out];rfl
     clear HS2
     cases k with
     | zero =>
      have HS4:Hid (res=lgo (prevOf (xs.map FactV.f) (0+1)) ((xs.map FactV.f).drop (0+1))):=by show _=_;rw [HS3.out];rfl
      clear HS3
      go_wp2_with fail
      go_quiet (fail)
      go_wp2
      go_roundw
      case rel=>exact ⟨0+1,by omega,by go_num,HS4,below_drewN HB2.out _⟩
      case measure=>simp [intOf];omega
     | succ m =>
      obtain ⟨y,hy⟩:∃ y,xs[m]? = some y:=⟨xs[m],List.getElem?_eq_getElem (by omega)⟩
      have hp:prevOf (xs.map FactV.f) (m+1)=some y.f.stamp:=by unfold prevOf;rw [if_neg (by omega)];simp [hy]
      have cp:w2.cell? ⟨b,off+m * 21+1,none⟩=some (.int .i64 y.f.stamp):=by
       obtain ⟨b',off',ea,_,hc'⟩:=HR.out.1.addr (k:=m) (cs:=y.cells) (by rw [List.getElem?_map,hy];rfl)
       injection ea with ea
       injection ea with e1 e2
       subst e1 e2
       exact (HB2.out.cell (p:=⟨b,off+m * 21+1,none⟩) hbl).trans (hc' 1 _ rfl)
      have hlm:m < xs.length:=by omega
      rw [hp] at HS3
      clear hp hfk hx hxm hy
      generalize x.f.stamp=sx at *
      generalize y.f.stamp=sy at *
      have hg1:decide ((0:Int) < (m:Int)+1)=true:=by simp
      by_cases hcmp:sx < sy
      ·have HV2:Hid (res=8):=by show _=_;rw [HS3.out,if_pos (by simpa using hcmp)]
       clear HS3
       go_wp2_with fail
       go_quiet (fail)
       go_wp2
       go_ret
       exact ⟨by rw [HV2.out];rfl,below_drewN HB2.out _⟩
      ·have HS4:Hid (res=lgo (prevOf (xs.map FactV.f) (m+1+1)) ((xs.map FactV.f).drop (m+1+1))):=by show _=_;rw [HS3.out,if_neg (by simpa using hcmp)]
       clear HS3
       go_wp2_with fail
       go_quiet (fail)
       go_wp2
       go_roundw
       case rel=>exact ⟨m+1+1,by omega,by go_num,HS4,below_drewN HB2.out _⟩
       case measure=>simp [intOf];omega
    ·have HV2:Hid (res=fe):=by show _=_;rw [HS2.out,if_pos he]
     have he':(fe == 0)=false:=by simpa using he
     clear HS2
     go_wp2
     go_ret
     exact ⟨by rw [HV2.out];rfl,HB2.out⟩
   ·obtain rfl:k=xs.length:=by omega
    have HV2:Hid (res=0):=by show _=_;rw [HS.out,List.drop_eq_nil_of_le (by simp)];rfl
    clear HS
    go_wp2
    go_ret
    exact ⟨by rw [HV2.out];rfl,HB.out⟩
end
section
open Go Go.RowKit Num
structure LogAt (w:World) (a:Option Addr) (c:Nat) (xs:List FactV):Prop where
 facts:Facts w a xs
 ok:∀ x,x∈xs→x.ok
 len:xs.length≤1000000
 cap:xs.length≤c
theorem LogAt.below {w w':World} {a:Option Addr} {c:Nat} {xs:List FactV} (h:LogAt w a c xs) (hb:Below w.heap.size w w'):LogAt w' a c xs:=⟨h.facts.below hb,h.ok,h.len,h.cap⟩
def lcheckK (fs:List FactP) (known:Int):Int:=if lcheck fs ≠ 0 then 1 else if known < 0∨(fs.length:Int) < known then 2 else 0
theorem checkK_any (xs:List FactV) (a:Option Addr) (c:Nat) (known:Int) (w:World) (hE:Env w) (hl:LogAt w a c xs) :
  Calls Tryz.prog 43 #[.slice a xs.length c,.int .i64 known] w fun e w'=>e = .returned (.int .i64 (lcheckK (xs.map FactV.f) known))∧Below w.heap.size w w':=by
 have HC:=Lib.hid (logCheck_any xs a c w hE hl.len hl.facts hl.ok)
 unfold lcheckK
 rw [List.length_map]
 generalize lcheck (xs.map FactV.f)=le at *
 generalize xs.length=n at *
 clear hl
 by_cases h0:le=0
 ·subst h0
  rw [if_neg (by simp)]
  by_cases h1:known < 0
  ·rw [if_pos (.inl h1)]
   go_enter Tryz.func43,Tryz.ntmps43
   go_wp2_with fail
   refine HC.out.mono ?_
   rintro e w1 ⟨rfl,hb⟩
   go_wp2
   go_ret
   exact ⟨rfl,hb⟩
  ·by_cases h2:(n:Int) < known
   ·rw [if_pos (.inr h2)]
    go_enter Tryz.func43,Tryz.ntmps43
    go_wp2_with fail
    refine HC.out.mono ?_
    rintro e w1 ⟨rfl,hb⟩
    go_wp2
    go_ret
    exact ⟨rfl,hb⟩
   ·rw [if_neg (by omega)]
    go_enter Tryz.func43,Tryz.ntmps43
    go_wp2_with fail
    refine HC.out.mono ?_
    rintro e w1 ⟨rfl,hb⟩
    go_wp2
    go_ret
    exact ⟨rfl,hb⟩
 ·rw [if_pos h0]
  have h0':(le == 0)=false:=by simpa using h0
  go_enter Tryz.func43,Tryz.ntmps43
  go_wp2_with fail
  refine HC.out.mono ?_
  rintro e w1 ⟨rfl,hb⟩
  go_wp2
  go_ret
  exact ⟨rfl,hb⟩
theorem Facts.cell {w:World} {a:Option Addr} {xs:List FactV} (h:Facts w a xs) {k:Nat} {x:FactV} (hx:xs[k]? = some x) :
  ∃ b off,a=some ⟨b,off,none⟩∧b < w.heap.size∧w.cell? ⟨b,off+k * 21,none⟩=some (.string ⟨x.f.key.toArray⟩)∧w.cell? ⟨b,off+k * 21+1,none⟩=some (.int .i64 x.f.stamp):=by
 obtain ⟨b,off,ea,hl,hc⟩:=h.1.addr (k:=k) (cs:=x.cells) (by rw [List.getElem?_map,hx];rfl)
 exact ⟨b,off,ea,hl,hc 0 _ rfl,hc 1 _ rfl⟩
theorem known1_any (xs:List FactV) (a:Option Addr) (c:Nat) (stamp:Int) (b1 b2:Nat) (T1 T2:TypeId) (k:Nat) (x:FactV) (w:World) (hl:LogAt w a c xs) (h1:Box w b1 #[.slice a xs.length c] T1) (h2:Box w b2 #[.int .i64 stamp] T2) (hx:xs[k]? = some x) :
  Calls Tryz.prog 45 #[.int .i64 (k:Int),.pointer (some ⟨b1,0,none⟩),.pointer (some ⟨b2,0,none⟩)] w fun e w'=>e = .returned (.bool (decide (stamp < x.f.stamp)))∧Below w.heap.size w w':=by
 obtain ⟨b,off,rfl,hb,_,c1⟩:=hl.facts.cell hx
 have hk:k < xs.length:=(List.getElem?_eq_some_iff.1 hx).1
 have k1:=h1.cell 0
 have k2:=h2.cell 0
 have hlen:=hl.len
 clear hl h1 h2 hx
 generalize xs.length=n at *
 generalize x.f.stamp=sx at *
 go_enter Tryz.func45,Tryz.ntmps45
 go_wp2_with fail
 go_quiet (fail)
 go_wp2
 go_ret
 exact ⟨rfl,below_drewN (Below.refl _ _) _⟩
end
section
open Go Go.RowKit Num
theorem known_at {fs:List FactP} (hs:Stamped fs) {a:Int} {i:Nat} (hi:i≤fs.length) (h1:∀ k f,k < i→fs[k]? = some f→f.stamp≤a) (h2:∀ k f,i≤k→fs[k]? = some f→a < f.stamp):knownN fs a=i:=by
 rcases Nat.lt_trichotomy (knownN fs a) i with h | h | h
 ·obtain ⟨f,hf⟩:∃ f,fs[knownN fs a]? = some f:=⟨fs[knownN fs a]'(by omega),List.getElem?_eq_getElem _⟩
  have:=(known_iff hs a _ f hf).2 (h1 _ f h hf)
  omega
 ·exact h
 ·have hle:=known_le fs a
  obtain ⟨f,hf⟩:∃ f,fs[i]? = some f:=⟨fs[i]'(by omega),List.getElem?_eq_getElem _⟩
  have h3:=(known_iff hs a _ f hf).1 h
  have h4:=h2 i f (Nat.le_refl _) hf
  omega
theorem search_any (xs:List FactV) (a:Option Addr) (c:Nat) (stamp:Int) (b1 b2:Nat) (T1 T2:TypeId) (w:World) (hl:LogAt w a c xs) (h1:Box w b1 #[.slice a xs.length c] T1) (h2:Box w b2 #[.int .i64 stamp] T2) (hs:Stamped (xs.map FactV.f)) :
  Calls Tryz.prog 44 #[.int .i64 (xs.length:Int),.func (.func 45) #[] #[.pointer (some ⟨b1,0,none⟩),.pointer (some ⟨b2,0,none⟩)]] w fun e w'=>e = .returned (.int .i64 (knownN (xs.map FactV.f) stamp:Nat))∧Below w.heap.size w w':=by
 have hlen:=hl.len
 have HF:Hid (∀ W (k:Nat) (x:FactV),Below w.heap.size w W→xs[k]? = some x→Calls Tryz.prog 45 #[.int .i64 (k:Int),.pointer (some ⟨b1,0,none⟩),.pointer (some ⟨b2,0,none⟩)] W fun e w'=>e = .returned (.bool (decide (stamp < x.f.stamp)))∧Below W.heap.size W w'):=fun W k x hb hx=>known1_any xs a c stamp b1 b2 T1 T2 k x W (hl.below hb) (h1.below hb) (h2.below hb) hx
 have HS:=Lib.hid hs
 clear hl h1 h2 hs
 go_enter Tryz.func44,Tryz.ntmps44
 go_wp2_with fail
 go_loopw [5,6] (fun iv jv wr => ∃ i j:Nat,i≤j∧j≤xs.length∧iv = .int .i64 i∧jv = .int .i64 j∧Hid (∀ k x,k < i→xs[k]? = some x→x.f.stamp≤stamp)∧Hid (∀ k x,j≤k→xs[k]? = some x→stamp < x.f.stamp)∧Hid (Below w.heap.size w wr)) (fun iv jv _=>(intOf jv).toNat - (intOf iv).toNat)
 case atStart=>exact ⟨0,xs.length,Nat.zero_le _,Nat.le_refl _,rfl,rfl,fun k x h=>absurd h (Nat.not_lt_zero k),fun k x h hx=>absurd (List.getElem?_eq_some_iff.1 hx).1 (by omega),Below.refl _ _⟩
 case round =>
  obtain ⟨i,j,hij,hj,rfl,rfl,HI,HJ,HB⟩:=hrel
  by_cases hlt:i < j
  ·go_wp2_with fail
   have eh:((i:Int)+(j:Int)) / 2=(((i+j) / 2:Nat):Int):=by omega
   rw [eh]
   have hm1:i≤(i+j) / 2:=by omega
   have hm2:(i+j) / 2 < j:=by omega
   clear eh
   generalize (i+j) / 2=m at *
   obtain ⟨x,hx⟩:∃ x,xs[m]? = some x:=⟨xs[m]'(by omega),List.getElem?_eq_getElem _⟩
   refine (HF.out wr m x HB.out hx).mono ?_
   rintro e w1 ⟨rfl,hb⟩
   have HB1:=Lib.hid (below_up HB.out hb)
   clear hb
   by_cases hc:stamp < x.f.stamp
   ·have HJ2:Hid (∀ k y,m≤k→xs[k]? = some y→stamp < y.f.stamp):=fun k y hk hy=>by
     rcases Nat.eq_or_lt_of_le hk with e | e
     ·subst e;rw [hx] at hy;injection hy with hy;subst hy;exact hc
     ·have:=List.pairwise_iff_getElem.1 HS.out
      have h1:=(List.getElem?_eq_some_iff.1 hx).1
      have h2:=(List.getElem?_eq_some_iff.1 hy).1
      have h3:=this m k (by rw [List.length_map];exact h1) (by rw [List.length_map];exact h2) e
      rw [List.getElem_map,List.getElem_map,(List.getElem?_eq_some_iff.1 hx).2,(List.getElem?_eq_some_iff.1 hy).2] at h3
      omega
    have hd:decide (stamp < x.f.stamp)=true:=by simpa using hc
    clear HJ hx
    go_wp2
    go_roundw
    case rel=>exact ⟨i,m,hm1,by omega,rfl,by go_num,HI,HJ2,HB1⟩
    case measure=>simp [intOf];omega
   ·have HI2:Hid (∀ k y,k < m+1→xs[k]? = some y→y.f.stamp≤stamp):=fun k y hk hy=>by
     rcases Nat.eq_or_lt_of_le (Nat.le_of_lt_succ hk) with e | e
     ·subst e;rw [hx] at hy;injection hy with hy;subst hy;omega
     ·have:=List.pairwise_iff_getElem.1 HS.out
      have h1:=(List.getElem?_eq_some_iff.1 hx).1
      have h2:=(List.getElem?_eq_some_iff.1 hy).1
      have h3:=this k m (by rw [List.length_map];exact h2) (by rw [List.length_map];exact h1) e
      rw [List.getElem_map,List.getElem_map,(List.getElem?_eq_some_iff.1 hx).2,(List.getElem?_eq_some_iff.1 hy).2] at h3
      omega
    have hd:decide (stamp < x.f.stamp)=false:=by simpa using hc
    clear HI hx
    go_wp2
    go_roundw
    case rel=>exact ⟨m+1,j,by omega,hj,by go_num,rfl,HI2,HJ,HB1⟩
    case measure=>simp [intOf];omega
  ·obtain rfl:i=j:=by omega
   have HV:Hid (knownN (xs.map FactV.f) stamp=i):=known_at HS.out (by rw [List.length_map];exact hj) (fun k f hk hf=>by
    rw [List.getElem?_map] at hf
    obtain ⟨x,hx,rfl⟩:=Option.map_eq_some_iff.1 hf
    exact HI.out k x hk hx) (fun k f hk hf=>by
    rw [List.getElem?_map] at hf
    obtain ⟨x,hx,rfl⟩:=Option.map_eq_some_iff.1 hf
    exact HJ.out k x hk hx)
   clear HI HJ HS
   go_wp2
   go_ret
   exact ⟨by rw [HV.out];rfl,HB.out⟩
theorem known_any (xs:List FactV) (a:Option Addr) (c:Nat) (stamp:Int) (w:World) (hE:Env w) (hl:LogAt w a c xs) :
  Calls Tryz.prog 13 #[.slice a xs.length c,.int .i64 stamp] w fun e w'=>e = .returned (if lcheck (xs.map FactV.f)=0 then .tuple #[.int .i64 (knownN (xs.map FactV.f) stamp:Nat),.int .i64 0] else .tuple #[.int .i64 0,.int .i64 1])∧Below w.heap.size w w':=by
 have HBW:=Lib.hid (((Below.refl w.heap.size w).alloc (Nat.le_refl _) (.cells #[.slice a xs.length c] 22)).alloc (by simp) (.cells #[.int .i64 stamp] 3))
 have K1:=(Box.new0 w #[.slice a xs.length c] 22).below (below_alloc _ (.cells #[.int .i64 stamp] 3))
 have K2:=Box.new0 (w.alloc (.cells #[.slice a xs.length c] 22)) #[.int .i64 stamp] 3
 rw [World.size_alloc] at K2
 have k1:=K1.cell 0
 have HK:Hid (∀ W,Below w.heap.size w W→Calls Tryz.prog 43 #[.slice a xs.length c,.int .i64 0] W fun e w'=>e = .returned (.int .i64 (lcheckK (xs.map FactV.f) 0))∧Below W.heap.size W w'):=fun W hb=>checkK_any xs a c 0 W (hE.below hb) (hl.below hb)
 have HL:=Lib.hid hl
 have K1:=Lib.hid K1
 have K2:=Lib.hid K2
 have hlen:=hl.len
 have hK0:lcheckK (xs.map FactV.f) 0=if lcheck (xs.map FactV.f)=0 then 0 else 1:=by
  unfold lcheckK
  by_cases h:lcheck (xs.map FactV.f)=0
  ·rw [if_neg (by simpa using h),if_neg (by omega),if_pos h]
  ·rw [if_pos h,if_neg h]
 rw [hK0] at HK
 clear hK0 hl hE
 by_cases h0:lcheck (xs.map FactV.f)=0
 ·have HSR:Hid (∀ W,Below w.heap.size w W→∀ b1 b2 T1 T2,Box W b1 #[.slice a xs.length c] T1→Box W b2 #[.int .i64 stamp] T2→Calls Tryz.prog 44 #[.int .i64 (xs.length:Int),.func (.func 45) #[] #[.pointer (some ⟨b1,0,none⟩),.pointer (some ⟨b2,0,none⟩)]] W fun e w'=>e = .returned (.int .i64 (knownN (xs.map FactV.f) stamp:Nat))∧Below W.heap.size W w'):=fun W hb b1 b2 T1 T2 h1 h2=>search_any xs a c stamp b1 b2 T1 T2 W (HL.out.below hb) h1 h2 (lcheck_zero h0).2.2
  rw [if_pos h0] at HK ⊢
  clear h0
  generalize knownN (xs.map FactV.f) stamp=res at *
  go_enter Tryz.func13,Tryz.ntmps13
  go_wp2_with fail
  refine (HK.out _ HBW.out).mono ?_
  rintro e w1 ⟨rfl,hb⟩
  have k1:=(hb.cell (p:=⟨w.heap.size,0,none⟩) K1.out.1).trans k1
  have HB1:=Lib.hid (below_up HBW.out hb)
  have K1:=Lib.hid (K1.out.below hb)
  have K2:=Lib.hid (K2.out.below hb)
  clear hb
  go_wp2_with fail
  refine (HSR.out _ HB1.out _ _ _ _ K1.out K2.out).mono ?_
  rintro e w2 ⟨rfl,hb⟩
  go_wp2
  go_ret2
  exact ⟨rfl,below_up HB1.out hb⟩
 ·rw [if_neg h0] at HK ⊢
  go_enter Tryz.func13,Tryz.ntmps13
  go_wp2_with fail
  refine (HK.out _ HBW.out).mono ?_
  rintro e w1 ⟨rfl,hb⟩
  go_wp2
  go_ret2
  exact ⟨rfl,below_up HBW.out hb⟩
end
section
open Go Go.RowKit Num
def depF (key:List UInt8) (stamp:Int):FactP:=⟨key,stamp,false,19723,1,[],[],[85,83,68],[],[],[53],[],⟨[],[]⟩,⟨[],[]⟩,⟨[],[]⟩,[],[],0⟩
def depV (key:List UInt8) (stamp:Int):FactV:=⟨depF key stamp,none,0,none,0⟩
theorem dep_ok (key:List UInt8) (stamp:Int) (h:key.length≤1000):(depV key stamp).ok:=by
 refine ⟨⟨h,by simp [depV,depF],by simp [depV,depF],by simp [depV,depF],by simp [depV,depF],by simp [depV,depF],by simp [depV,depF],by simp [depV,depF],⟨by simp [depV,depF],by simp [depV,depF]⟩,⟨by simp [depV,depF],by simp [depV,depF]⟩,⟨by simp [depV,depF],by simp [depV,depF]⟩,by simp [depV,depF],fun p hp => ?_,by simp [depV,depF],fun p hp => ?_⟩,by simp [depV,depF]⟩
 ·cases hp
 ·cases hp
def depCells (key:List UInt8) (stamp:Int):Array Value:=#[.string ⟨key.toArray⟩,.int .i64 stamp,.bool false,.int .i64 19723,.int .i64 1,.string ⟨#[]⟩,.string ⟨#[]⟩,.string ⟨#[85,83,68]⟩,.string ⟨#[]⟩,.string ⟨#[]⟩,.string ⟨#[53]⟩,.string ⟨#[]⟩,.string ⟨#[]⟩,.string ⟨#[]⟩,.string ⟨#[]⟩,.string ⟨#[]⟩,.string ⟨#[]⟩,.string ⟨#[]⟩,.slice none 0 0,.slice none 0 0,.int .i64 0]
theorem deposit_any (key:List UInt8) (stamp:Int) (w:World) :
  Calls Tryz.prog 42 #[.string ⟨key.toArray⟩,.int .i64 stamp] w fun e w'=>e = .returned (.agg (depCells key stamp))∧Below w.heap.size w w':=by
 have KZ:=Lib.hid (Box.new0 w Z21 36)
 have HB:=Lib.hid (below_alloc w (.cells Z21 36))
 have HSZ:Hid ((Tryz.prog.info? 36).map (·.size)=some (depCells key stamp).size):=factSize21
 have HS2:Hid (Z21.size=(depCells key stamp).size):=rfl
 have HONE:Hid ((depCells key stamp).all (·.oneCell')=true):=by show _=_;simp [depCells,Value.oneCell']
 obtain ⟨cs,hcs⟩:∃ cs,cs=depCells key stamp:=⟨_,rfl⟩
 rw [← hcs] at HSZ HS2 HONE ⊢
 have HCS:=Lib.hid hcs
 clear hcs
 go_enter Tryz.func42,Tryz.ntmps42
 go_wp2_with (refine wpList_store_row rfl 36 _ _ rfl w.heap.size cs rfl (by rw [HCS.out];rfl) 36 Z21 KZ.out.2 HSZ.out HS2.out HONE.out ?_)
 refine bodyPost_ret (v:=.agg cs) (results_cell_row Tryz.results42 _ _ w.heap.size 36 cs (0,0) _ rfl (setRow_heap _ _ _ _ _ _ KZ.out.2) Tryz.underlying36 rfl HSZ.out) rfl ⟨rfl,?_⟩
 exact below_setRow HB.out (Nat.le_refl _) cs
end
end Go.Proofs.YtgopbldkhlmbnaaGreatDoor
