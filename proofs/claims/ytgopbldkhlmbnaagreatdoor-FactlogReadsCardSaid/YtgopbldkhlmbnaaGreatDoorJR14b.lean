/- InsP R14b -/
import Derived.Test.YtgopbldkhlmbnaaGreatDoorJKeys
import Derived.Test.YtgopbldkhlmbnaaGreatDoorJR14
import Derived.Test.YtgopbldkhlmbnaaGreatDoorJReads
import Derived.Test.YtgopbldkhlmbnaaGreatDoorJHistP
set_option maxHeartbeats 16000000
set_option maxRecDepth 100000
namespace Go.Proofs.YtgopbldkhlmbnaaGreatDoor
section
open Go.RowKit Num
def insK:List (List UInt8)→List UInt8→List (List UInt8)
 | [],s=>[s]
 | x :: r,s=>if x < s then x :: insK r s else if x=s then x :: r else s :: x :: r
theorem insK_mem {l:List (List UInt8)} {s y:List UInt8}:y∈insK l s ↔ y=s∨y∈l:=by
 induction l with
 | nil=>simp [insK]
 | cons x r ih =>
  unfold insK
  split
  ·rw [List.mem_cons,ih,List.mem_cons]
   constructor
   ·rintro (h | h | h)
    ·exact .inr (.inl h)
    ·exact .inl h
    ·exact .inr (.inr h)
   ·rintro (h | h | h)
    ·exact .inr (.inl h)
    ·exact .inl h
    ·exact .inr (.inr h)
  ·split
   ·rename_i h;subst h;simp
   ·simp
theorem str_lt_of {x s:List UInt8} (h1:¬ x < s) (h2:x ≠ s):s < x:=by
 by_cases h:s < x
 ·exact h
 ·exact absurd (List.le_antisymm h h1) h2
theorem insK_asc {l:List (List UInt8)} {s:List UInt8} (h:l.Pairwise (· < ·)):(insK l s).Pairwise (· < ·):=by
 induction l with
 | nil=>simp [insK]
 | cons x r ih =>
  obtain ⟨h1,h2⟩:=List.pairwise_cons.1 h
  unfold insK
  split
  ·rename_i hx
   refine List.pairwise_cons.2 ⟨fun y hy => ?_,ih h2⟩
   rcases insK_mem.1 hy with rfl | hy
   ·exact hx
   ·exact h1 y hy
  ·split
   ·exact h
   ·rename_i h3 h4
    have h5:=str_lt_of h3 h4
    refine List.pairwise_cons.2 ⟨fun y hy => ?_,h⟩
    rcases List.mem_cons.1 hy with rfl | hy
    ·exact h5
    ·exact List.lt_trans h5 (h1 y hy)
theorem asc_ext {A:List (List UInt8)}:∀ {B:List (List UInt8)},A.Pairwise (· < ·)→B.Pairwise (· < ·)→(∀ x,x∈A ↔ x∈B)→A=B:=by
 induction A with
 | nil =>
  intro B _ _ h
  cases B with
  | nil=>rfl
  | cons b B=>exact absurd ((h b).2 (by simp)) (by simp)
 | cons a A ih =>
  intro B hA hB h
  cases B with
  | nil=>exact absurd ((h a).1 (by simp)) (by simp)
  | cons b B =>
   obtain ⟨a1,a2⟩:=List.pairwise_cons.1 hA
   obtain ⟨b1,b2⟩:=List.pairwise_cons.1 hB
   have hab:a=b:=by
    rcases List.mem_cons.1 ((h a).1 (by simp)) with e | e
    ·exact e
    ·rcases List.mem_cons.1 ((h b).2 (by simp)) with e2 | e2
     ·exact e2.symm
     ·exact absurd (List.lt_trans (b1 a e) (a1 b e2)) (List.lt_irrefl _)
   subst hab
   rw [ih a2 b2 fun x => ?_]
   constructor
   ·intro hx
    rcases List.mem_cons.1 ((h x).1 (List.mem_cons_of_mem _ hx)) with e | e
    ·subst e;exact absurd (a1 x hx) (List.lt_irrefl _)
    ·exact e
   ·intro hx
    rcases List.mem_cons.1 ((h x).2 (List.mem_cons_of_mem _ hx)) with e | e
    ·subst e;exact absurd (b1 x hx) (List.lt_irrefl _)
    ·exact e
theorem keys_step {fs:List FactP} {k:Nat} {f:FactP} (hf:fs[k]? = some f):keysV (fs.take (k+1))=insK (keysV (fs.take k)) f.key:=by
 have e:fs.take (k+1)=fs.take k ++ [f]:=by rw [List.take_add_one,hf];rfl
 refine asc_ext (keys_asc _) (insK_asc (keys_asc _)) fun x => ?_
 rw [e,insK_mem,keys_mem,keys_mem]
 constructor
 ·rintro ⟨g,hg,rfl⟩
  rcases List.mem_append.1 hg with hg | hg
  ·exact .inr ⟨g,hg,rfl⟩
  ·rw [List.mem_singleton] at hg;subst hg;exact .inl rfl
 ·rintro (rfl | ⟨g,hg,rfl⟩)
  ·exact ⟨f,by simp,rfl⟩
  ·exact ⟨g,by simp [hg],rfl⟩
theorem insK_at {l:List (List UInt8)} {s:List UInt8}:∀ {k:Nat},(∀ (j:Nat) x,j < k→l[j]? = some x→x < s)→k≤l.length→(∀ x,l[k]? = some x→¬ x < s) →
  insK l s=if l[k]? = some s then l else l.take k ++ s :: l.drop k:=by
 induction l with
 | nil =>
  intro k _ hk _
  have:k=0:=by simpa using hk
  subst this
  simp [insK]
 | cons x r ih =>
  intro k h1 hk h2
  cases k with
  | zero =>
   have h3:=h2 x rfl
   unfold insK
   rw [if_neg h3]
   by_cases hx:x=s
   ·simp [hx]
   ·simp [hx]
  | succ k =>
   have h3:=h1 0 x (by omega) rfl
   have h4:=ih (k:=k) (fun j y hj hy=>h1 (j+1) y (by omega) (by simpa using hy)) (by simpa using hk) (fun y hy=>h2 y (by simpa using hy))
   unfold insK
   rw [if_pos h3,h4]
   by_cases h5:r[k]? = some s
   ·simp [h5]
   ·simp [h5]
end
section
open Go Go.RowKit Num
theorem Facts.at {w w':World} {a:Option Addr} {xs:List FactV} (h:Facts w a xs) (hb:Below w.heap.size w w') {k:Nat} {x:FactV} (hx:xs[k]? = some x) :
  ∃ b off,a=some ⟨b,off,none⟩∧w'.cell? ⟨b,off+k * 21,none⟩=some (.string ⟨x.f.key.toArray⟩):=by
 obtain ⟨b,off,ea,hl,hc,_⟩:=h.cell hx
 exact ⟨b,off,ea,(hb.cell (p:=⟨b,off+k * 21,none⟩) hl).trans hc⟩
theorem keyAt_of {xs:List FactV} {key:List UInt8} {k:Nat} {x:FactV} (hx:xs[k]? = some x):keyAt (xs.map FactV.f) key k=(x.f.key == key):=by
 unfold keyAt
 rw [List.getElem?_map,hx]
 rfl
theorem R14History_any (xs:List FactV) (a:Option Addr) (c:Nat) (key:List UInt8) (w:World) (hl:LogT w a c xs) (h0:lcheck (xs.map FactV.f)=0) :
  Calls Tryz.prog 30 #[.slice a xs.length c,.string ⟨key.toArray⟩] w fun e w' => ∃ v,e = .returned (.tuple #[v,.int .i64 0])∧w'.ownsRow w.heap.size 3 1 v (fwd (xs.map FactV.f) key xs.length 0).length ((fwd (xs.map FactV.f) key xs.length 0).map natV)∧Below w.heap.size w w':=by
 have HC:=Lib.hid (R14Check_any xs a c w hl.len hl.facts hl.tight)
 obtain ⟨i0,hi,hz0,hz1,hz2⟩:=info_parts infoSeq
 have hlen:=hl.len
 have HL:=Lib.hid hl.facts
 clear hl
 rw [h0] at HC
 clear h0
 go_enter Tryz.func30,Tryz.ntmps30
 go_wp2_with fail
 refine HC.out.mono ?_
 rintro e w1 ⟨rfl,hb⟩
 have HB:=Lib.hid hb
 clear hb HC
 go_wp2_with fail
 have HB1:Hid (Below w.heap.size w (w1.alloc (.cells #[] 3))):=below_up HB.out (below_alloc _ _)
 have HO1:Hid ((w1.alloc (.cells #[] 3)).ownsRow w.heap.size 3 1 (.slice (some ⟨w1.heap.size,0,none⟩) 0 0) 0 []):=World.ownsRow_made w1 #[] 0 HB.out.size (Nat.zero_le _) rfl
 go_loopw [6,7] (fun ov iv wr => ∃ k:Nat,k≤xs.length∧iv = .int .i64 k∧Hid (wr.ownsRow w.heap.size 3 1 ov (fwd (xs.map FactV.f) key k 0).length ((fwd (xs.map FactV.f) key k 0).map natV))∧Hid (Below w.heap.size w wr)) (fun _ iv _=>xs.length - (intOf iv).toNat)
 case atStart=>exact ⟨0,Nat.zero_le _,rfl,HO1,HB1⟩
 case round =>
  clear HB1 HO1 HB
  obtain ⟨k,hk,rfl,HO,HB⟩:=hrel
  by_cases hlt:k < xs.length
  ·obtain ⟨x,hx⟩:∃ x,xs[k]? = some x:=⟨xs[k],List.getElem?_eq_getElem hlt⟩
   obtain ⟨b,off,rfl,c0⟩:=HL.out.at HB.out hx
   have HK:Hid (fwd (xs.map FactV.f) key (k+1) 0=if (x.f.key == key)=true then fwd (xs.map FactV.f) key k 0 ++ [k] else fwd (xs.map FactV.f) key k 0):=by show _=_;rw [fwd_succ,keyAt_of hx]
   have HFL:Hid ((fwd (xs.map FactV.f) key k 0).length≤k):=by
    show _≤_
    rw [fwd_zero]
    exact Nat.le_trans (List.length_filter_le _ _) (by simp)
   have HSZ:=Lib.hid HB.out.size
   clear hx
   generalize x.f.key=kx at *
   obtain ⟨s',hs'⟩:∃ s',s'=fwd (xs.map FactV.f) key (k+1) 0:=⟨_,rfl⟩
   rw [← hs'] at HK
   have HS':=Lib.hid hs'
   clear hs'
   generalize fwd (xs.map FactV.f) key k 0=s at *
   cases hq:(kx == key) with
   | true =>
    have HK2:Hid (s'=s ++ [k]):=by have h:=HK.out;rw [if_pos hq] at h;exact h
    clear HK
    have hfl:=HFL.out
    go_wp2_with (at_builtin;refine wpList_append_own_at _ rfl _ _ 46 rfl w.heap.size 3 i0 (.int .i64 0) 1 8 Tryz.underlying46 hi hz0 hz1 hz2 rfl (by decide) _ _ _ rfl (HO.out.alloc _) ⟨wr.heap.size,0,none⟩ 1 1 [.int .i64 (k:Int)] rfl rfl (cell_one_new _ _ _) (by simp [Value.oneCell']) (by unfold maxLen;omega) (by omega) (by have:=HSZ.out;simp;omega) ?_)
    intro v' w3 hown' hgrow _ _
    have HB3:=Lib.hid (grown_below (HO.out.alloc (.cells #[.int .i64 (k:Int)] 3)) hgrow (below_up HB.out (below_alloc _ _)) (by have:=HSZ.out;simp;omega))
    have HO3:Hid (w3.ownsRow w.heap.size 3 1 v' s'.length (s'.map natV)):=by
     show World.ownsRow _ _ _ _ _ _ _
     rw [HK2.out]
     simpa using hown'
    clear hgrow hown'
    go_wp2
    go_roundw
    case rel=>exact ⟨k+1,by omega,by go_num,(by rw [← HS'.out];exact HO3),HB3⟩
    case measure=>simp [intOf];omega
   | false =>
    obtain rfl:s'=s:=by have h:=HK.out;rw [if_neg (by rw [hq];decide)] at h;exact h
    clear HK
    go_wp2
    go_roundw
    case rel=>exact ⟨k+1,by omega,by go_num,(by rw [← HS'.out];exact HO),HB⟩
    case measure=>simp [intOf];omega
  ·obtain rfl:k=xs.length:=by omega
   go_wp2
   go_ret2
   exact ⟨_,rfl,HO.out,HB.out⟩
theorem R14History_bad (xs:List FactV) (a:Option Addr) (c:Nat) (key:List UInt8) (w:World) (hl:LogT w a c xs) (h0:lcheck (xs.map FactV.f) ≠ 0) :
  Calls Tryz.prog 30 #[.slice a xs.length c,.string ⟨key.toArray⟩] w fun e w' => ∃ v,e = .returned (.tuple #[v,.int .i64 1])∧w'.ownsRow w.heap.size 3 1 v 0 []∧Below w.heap.size w w':=by
 have HC:=Lib.hid (R14Check_any xs a c w hl.len hl.facts hl.tight)
 clear hl
 generalize lcheck (xs.map FactV.f)=le at *
 have h0':(le == 0)=false:=by simpa using h0
 go_enter Tryz.func30,Tryz.ntmps30
 go_wp2_with fail
 refine HC.out.mono ?_
 rintro e w1 ⟨rfl,hb⟩
 go_wp2
 go_ret2
 exact ⟨_,rfl,World.ownsRow_made w1 #[] 0 hb.size (Nat.zero_le _) rfl,below_up hb (below_alloc _ _)⟩
theorem R14Latest_bad (xs:List FactV) (a:Option Addr) (c:Nat) (known:Int) (key:List UInt8) (w:World) (hl:LogT w a c xs) (h0:lcheckK (xs.map FactV.f) known ≠ 0) :
  Calls Tryz.prog 31 #[.slice a xs.length c,.int .i64 known,.string ⟨key.toArray⟩] w fun e w'=>e = .returned (.tuple #[.int .i64 0,.bool false,.int .i64 (lcheckK (xs.map FactV.f) known)])∧Below w.heap.size w w':=by
 have HC:=Lib.hid (R14checkK_any xs a c known w hl)
 clear hl
 generalize lcheckK (xs.map FactV.f) known=le at *
 have h0':(le == 0)=false:=by simpa using h0
 go_enter Tryz.func31,Tryz.ntmps31
 go_wp2_with fail
 refine HC.out.mono ?_
 rintro e w1 ⟨rfl,hb⟩
 go_wp2
 go_ret3
 exact ⟨rfl,hb⟩
theorem lcheckK_zero {fs:List FactP} {known:Int} (h:lcheckK fs known=0):lcheck fs=0∧0≤known∧known≤fs.length:=by
 unfold lcheckK at h
 split at h
 ·cases h
 ·rename_i h1
  split at h
  ·cases h
  ·rename_i h2
   exact ⟨by simpa using h1,by omega,by omega⟩
theorem R14Latest_any (xs:List FactV) (a:Option Addr) (c:Nat) (k:Nat) (key:List UInt8) (w:World) (hl:LogT w a c xs) (hk:k≤xs.length) (h0:lcheckK (xs.map FactV.f) k=0) :
  Calls Tryz.prog 31 #[.slice a xs.length c,.int .i64 (k:Int),.string ⟨key.toArray⟩] w fun e w'=>e = .returned (latestV (xs.map FactV.f) key k)∧Below w.heap.size w w':=by
 have HC:=Lib.hid (R14checkK_any xs a c k w hl)
 rw [h0] at HC
 have hlen:=hl.len
 have HL:=Lib.hid hl.facts
 obtain ⟨res,hs⟩:∃ res,res=latestV (xs.map FactV.f) key k:=⟨_,rfl⟩
 rw [← hs]
 have HV:=Lib.hid hs
 clear hl h0 hs
 go_enter Tryz.func31,Tryz.ntmps31
 go_wp2_with fail
 refine HC.out.mono ?_
 rintro e w1 ⟨rfl,hb⟩
 have HB:=Lib.hid hb
 clear hb HC
 go_wp2_with fail
 go_loopw [10] (fun iv wr => ∃ j:Nat,j≤k∧iv = .int .i64 ((j:Int) - 1)∧Hid (res=latestV (xs.map FactV.f) key j)∧Hid (Below w.heap.size w wr)) (fun iv _=>(intOf iv+1).toNat)
 case atStart=>exact ⟨k,Nat.le_refl _,rfl,HV,HB⟩
 case round =>
  clear HB HV
  obtain ⟨j,hj,rfl,HS,HB⟩:=hrel
  cases j with
  | zero =>
   have HS2:Hid (res = .tuple #[.int .i64 0,.bool false,.int .i64 0]):=HS.out
   clear HS
   go_wp2
   go_ret3
   exact ⟨by rw [HS2.out];rfl,HB.out⟩
  | succ j =>
   have e1:((j+1:Nat):Int) - 1=(j:Int):=by omega
   rw [e1]
   clear e1
   obtain ⟨x,hx⟩:∃ x,xs[j]? = some x:=⟨xs[j]'(by omega),List.getElem?_eq_getElem _⟩
   obtain ⟨b,off,rfl,c0⟩:=HL.out.at HB.out hx
   have HK:Hid (res=if (x.f.key == key)=true then .tuple #[.int .i64 (j:Int),.bool true,.int .i64 0] else latestV (xs.map FactV.f) key j):=by
    show _=_
    rw [HS.out]
    unfold latestV
    rw [bwd,keyAt_of hx]
    cases (x.f.key == key) <;> rfl
   clear hx HS
   have hjl:j < xs.length:=by omega
   generalize x.f.key=kx at *
   cases hq:(kx == key) with
   | true =>
    have HK2:Hid (res = .tuple #[.int .i64 (j:Int),.bool true,.int .i64 0]):=by have h:=HK.out;rw [if_pos hq] at h;exact h
    clear HK
    go_wp2
    go_ret3
    exact ⟨by rw [HK2.out];rfl,HB.out⟩
   | false =>
    have HK2:Hid (res=latestV (xs.map FactV.f) key j):=by have h:=HK.out;rw [if_neg (by rw [hq];decide)] at h;exact h
    clear HK
    go_wp2
    go_roundw
    case rel=>exact ⟨j,by omega,by go_num,HK2,HB⟩
    case measure=>simp [intOf]
noncomputable def replE (fs:List FactP) (key:List UInt8) (k i:Nat):Value :=
 match fwd fs key k i with
 | [] => .tuple #[.int .i64 0,.bool false,.int .i64 0]
 | x :: _ => .tuple #[.int .i64 (x:Int),.bool true,.int .i64 0]
theorem R14Replaced_bad (xs:List FactV) (a:Option Addr) (c:Nat) (known i:Int) (w:World) (hl:LogT w a c xs) (h0:lcheckK (xs.map FactV.f) known ≠ 0) :
  Calls Tryz.prog 34 #[.slice a xs.length c,.int .i64 known,.int .i64 i] w fun e w'=>e = .returned (.tuple #[.int .i64 0,.bool false,.int .i64 (lcheckK (xs.map FactV.f) known)])∧Below w.heap.size w w':=by
 have HC:=Lib.hid (R14checkK_any xs a c known w hl)
 clear hl
 generalize lcheckK (xs.map FactV.f) known=le at *
 have h0':(le == 0)=false:=by simpa using h0
 go_enter Tryz.func34,Tryz.ntmps34
 go_wp2_with fail
 refine HC.out.mono ?_
 rintro e w1 ⟨rfl,hb⟩
 go_wp2
 go_ret3
 exact ⟨rfl,hb⟩
theorem R14Replaced_out (xs:List FactV) (a:Option Addr) (c:Nat) (known i:Int) (w:World) (hl:LogT w a c xs) (h0:lcheckK (xs.map FactV.f) known=0) (hi:i < 0∨known≤i) :
  Calls Tryz.prog 34 #[.slice a xs.length c,.int .i64 known,.int .i64 i] w fun e w'=>e = .returned (.tuple #[.int .i64 0,.bool false,.int .i64 2])∧Below w.heap.size w w':=by
 have HC:=Lib.hid (R14checkK_any xs a c known w hl)
 rw [h0] at HC
 clear hl h0
 by_cases h1:i < 0
 ·clear hi
  go_enter Tryz.func34,Tryz.ntmps34
  go_wp2_with fail
  refine HC.out.mono ?_
  rintro e w1 ⟨rfl,hb⟩
  go_wp2
  go_ret3
  exact ⟨rfl,hb⟩
 ·have h2:known≤i:=by omega
  clear hi
  go_enter Tryz.func34,Tryz.ntmps34
  go_wp2_with fail
  refine HC.out.mono ?_
  rintro e w1 ⟨rfl,hb⟩
  go_wp2
  go_ret3
  exact ⟨rfl,hb⟩
theorem R14Replaced_any (xs:List FactV) (a:Option Addr) (c:Nat) (k i:Nat) (y:FactV) (w:World) (hl:LogT w a c xs) (hk:k≤xs.length) (hi:i < k) (hy:xs[i]? = some y) (h0:lcheckK (xs.map FactV.f) k=0) :
  Calls Tryz.prog 34 #[.slice a xs.length c,.int .i64 (k:Int),.int .i64 (i:Int)] w fun e w'=>e = .returned (replE (xs.map FactV.f) y.f.key k (i+1))∧Below w.heap.size w w':=by
 have HC:=Lib.hid (R14checkK_any xs a c k w hl)
 rw [h0] at HC
 have hlen:=hl.len
 have HL:=Lib.hid hl.facts
 have HY:=Lib.hid hy
 obtain ⟨res,hs⟩:∃ res,res=replE (xs.map FactV.f) y.f.key k (i+1):=⟨_,rfl⟩
 rw [← hs]
 have HS0:=Lib.hid hs
 clear hl h0 hs hy
 have hil:i < xs.length:=by omega
 go_enter Tryz.func34,Tryz.ntmps34
 go_wp2_with fail
 refine HC.out.mono ?_
 rintro e w1 ⟨rfl,hb⟩
 have HB:=Lib.hid hb
 clear hb HC
 go_wp2_with fail
 have e1:decide ((i:Int) < 0)=false:=by simp
 have e2:decide (k≤i)=false:=by simpa using hi
 simp only [e1,e2,Bool.or_self]
 clear e1 e2
 go_loopw [10] (fun iv wr => ∃ j:Nat,i+1≤j∧j≤k∧iv = .int .i64 (j:Int)∧Hid (res=replE (xs.map FactV.f) y.f.key k j)∧Hid (Below w.heap.size w wr)) (fun iv _=>k - (intOf iv).toNat)
 case atStart=>exact ⟨i+1,Nat.le_refl _,hi,by go_num,HS0,HB⟩
 case round =>
  clear HB HS0
  obtain ⟨j,hij,hj,rfl,HS,HB⟩:=hrel
  by_cases hlt:j < k
  ·obtain ⟨x,hx⟩:∃ x,xs[j]? = some x:=⟨xs[j]'(by omega),List.getElem?_eq_getElem _⟩
   obtain ⟨b,off,rfl,c0⟩:=HL.out.at HB.out hx
   obtain ⟨b',off',ea,c1⟩:=HL.out.at HB.out HY.out
   injection ea with ea
   injection ea with e1 e2
   subst e1 e2
   have HK:Hid (res=if (x.f.key == y.f.key)=true then .tuple #[.int .i64 (j:Int),.bool true,.int .i64 0] else replE (xs.map FactV.f) y.f.key k (j+1)):=by
    show _=_
    rw [HS.out]
    unfold replE
    rw [fwd_at hlt,keyAt_of hx]
    cases (x.f.key == y.f.key) <;> rfl
   clear hx HS
   have hjl:j < xs.length:=by omega
   generalize x.f.key=kx at *
   generalize hky:y.f.key=ky at *
   cases hq:(kx == ky) with
   | true =>
    have HK2:Hid (res = .tuple #[.int .i64 (j:Int),.bool true,.int .i64 0]):=by have h:=HK.out;rw [if_pos hq] at h;exact h
    clear HK
    go_wp2_with fail
    go_quiet (fail)
    go_wp2
    go_ret3
    exact ⟨by rw [HK2.out];rfl,below_drewN HB.out _⟩
   | false =>
    have HK2:Hid (res=replE (xs.map FactV.f) ky k (j+1)):=by have h:=HK.out;rw [if_neg (by rw [hq];decide)] at h;exact h
    clear HK
    go_wp2_with fail
    go_quiet (fail)
    go_wp2
    go_roundw
    case rel=>exact ⟨j+1,by omega,by omega,by go_num,HK2,below_drewN HB.out _⟩
    case measure=>simp [intOf];omega
  ·obtain rfl:j=k:=by omega
   have HS2:Hid (res = .tuple #[.int .i64 0,.bool false,.int .i64 0]):=by have h:=HS.out;unfold replE at h;rw [fwd_end] at h;exact h
   clear HS
   go_wp2
   go_ret3
   exact ⟨by rw [HS2.out];rfl,HB.out⟩
end
end Go.Proofs.YtgopbldkhlmbnaaGreatDoor
