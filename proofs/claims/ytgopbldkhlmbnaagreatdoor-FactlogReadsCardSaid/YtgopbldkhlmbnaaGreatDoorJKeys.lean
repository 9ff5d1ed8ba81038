/- KeysP Sorted2 Strs Keys -/
import Derived.Test.YtgopbldkhlmbnaaGreatDoorJHistP
import Derived.Test.YtgopbldkhlmbnaaGreatDoorJShelf
import Derived.Test.YtgopbldkhlmbnaaGreatDoorJReads
import Derived.Lib.SlicesCompact
import Derived.Lib.OwnBridge
import Derived.Sort.OwnSorted
set_option maxHeartbeats 16000000
set_option maxRecDepth 100000
namespace Go.Proofs.YtgopbldkhlmbnaaGreatDoor
section
open Go.RowKit Num
section
variable {ss:List (List UInt8)}
theorem le_of_pw {d:Array (List UInt8)} (hs:d.toList.Pairwise (·≤·)) {i j:Nat} (hij:i < j) (hj:j < d.size):d[i]!≤d[j]! := by
 have:=List.pairwise_iff_getElem.1 hs i j (by simpa using Nat.lt_trans hij hj) (by simpa using hj) hij
 rw [getElem!_pos d i (by omega),getElem!_pos d j hj]
 simpa using this
theorem upTo_facts (d:Array (List UInt8)) (hs:d.toList.Pairwise (·≤·)) (m:Nat) (hm:m≤d.size) :
  (∀ x,x∈Go.Lib.compactUpTo d m ↔ ∃ j,j < m∧d[j]! = x)∧(Go.Lib.compactUpTo d m).Pairwise (· < ·):=by
 induction m with
 | zero=>exact ⟨fun x=>by simp [Go.Lib.compactUpTo],by simp [Go.Lib.compactUpTo]⟩
 | succ m ih =>
  obtain ⟨i1,i2⟩:=ih (by omega)
  rw [Go.Lib.compactUpTo_succ]
  by_cases hk:Go.Lib.keeps d m=true
  ·rw [if_pos hk]
   refine ⟨fun x => ?_,?_⟩
   ·rw [List.mem_append,i1,List.mem_singleton]
    constructor
    ·rintro (⟨j,hj,e⟩ | rfl)
     ·exact ⟨j,by omega,e⟩
     ·exact ⟨m,by omega,rfl⟩
    ·rintro ⟨j,hj,e⟩
     rcases Nat.lt_or_ge j m with h | h
     ·exact .inl ⟨j,h,e⟩
     ·obtain rfl:j=m:=by omega
      exact .inr e.symm
   ·rw [List.pairwise_append]
    refine ⟨i2,by simp,fun x hx y hy => ?_⟩
    rw [List.mem_singleton] at hy
    subst hy
    obtain ⟨j,hj,rfl⟩:=(i1 x).1 hx
    have hne:m=0∨d[m]! ≠ d[m - 1]! := by simpa [Go.Lib.keeps] using hk
    have hne:=hne.resolve_left (by omega)
    have h1:d[j]!≤d[m - 1]! := by
     rcases Nat.lt_or_ge j (m - 1) with h | h
     ·exact le_of_pw hs h (by omega)
     ·obtain rfl:j=m - 1:=by omega
      exact List.le_refl _
    have h2:d[m - 1]!≤d[m]! := le_of_pw hs (by omega) (by omega)
    by_cases h:d[j]! < d[m]!
    ·exact h
    ·exfalso
     have h4:d[m]!≤d[j]! := h
     exact hne (List.le_antisymm (List.le_trans h4 h1) h2)
  ·rw [if_neg hk,List.append_nil]
   refine ⟨fun x => ?_,i2⟩
   rw [i1]
   have he:m ≠ 0∧d[m]! = d[m - 1]! := by
    have:¬ (m=0∨d[m]! ≠ d[m - 1]!):=by simpa [Go.Lib.keeps] using hk
    exact ⟨fun h=>this (.inl h),Classical.not_not.1 fun h=>this (.inr h)⟩
   constructor
   ·rintro ⟨j,hj,e⟩
    exact ⟨j,by omega,e⟩
   ·rintro ⟨j,hj,e⟩
    rcases Nat.lt_or_ge j m with h | h
    ·exact ⟨j,h,e⟩
    ·obtain rfl:j=m:=by omega
     exact ⟨j - 1,by omega,by rw [← he.2];exact e⟩
theorem compact_mem (hs:ss.Pairwise (·≤·)) (x:List UInt8):x∈Go.Lib.compact ss ↔ x∈ss:=by
 rw [Go.Lib.compact,(upTo_facts ss.toArray hs ss.length (by simp)).1 x,List.mem_iff_getElem]
 constructor
 ·rintro ⟨j,hj,e⟩
  refine ⟨j,hj,?_⟩
  rw [getElem!_pos ss.toArray j (by simpa using hj)] at e
  simpa using e
 ·rintro ⟨j,hj,e⟩
  refine ⟨j,hj,?_⟩
  rw [getElem!_pos ss.toArray j (by simpa using hj)]
  simpa using e
theorem compact_asc (hs:ss.Pairwise (·≤·)):(Go.Lib.compact ss).Pairwise (· < ·):=(upTo_facts ss.toArray hs ss.length (by simp)).2
end
theorem str_nodup_len {A B:List (List UInt8)} (h:A.Nodup) (hs:∀ x,x∈A→x∈B):A.length≤B.length:=by
 induction A generalizing B with
 | nil=>simp
 | cons a A ih =>
  obtain ⟨h1,h2⟩:=List.nodup_cons.1 h
  have ha:=hs a (by simp)
  have:=ih (B:=B.erase a) h2 fun x hx=>(List.mem_erase_of_ne (fun e=>h1 (by rw [← e];exact hx))).2 (hs x (List.mem_cons_of_mem _ hx))
  rw [List.length_erase_of_mem ha] at this
  have:=List.length_pos_of_mem ha
  rw [List.length_cons]
  omega
theorem asc_nodup {A:List (List UInt8)} (h:A.Pairwise (· < ·)):A.Nodup:=h.imp fun {a b} hab e=>by rw [e] at hab;exact List.lt_irrefl _ hab
def keysV (fs:List FactP):List (List UInt8):=Go.Lib.compact ((fs.map (·.key)).mergeSort fun x y=>decide (x≤y))
theorem sorted_keys (zs:List (List UInt8)):(zs.mergeSort fun x y=>decide (x≤y)).Pairwise (·≤·):=by
 have h:=List.pairwise_mergeSort (le:=fun x y:List UInt8=>decide (x≤y)) (fun a b c h1 h2=>by simp only [decide_eq_true_eq] at *;exact List.le_trans h1 h2) (fun a b=>by simp only [Bool.or_eq_true,decide_eq_true_eq];exact List.le_total a b) zs
 exact h.imp fun {a b} h=>by simpa using h
theorem keys_asc (fs:List FactP):(keysV fs).Pairwise (· < ·):=compact_asc (sorted_keys _)
theorem keys_mem {fs:List FactP} {s:List UInt8}:s∈keysV fs ↔ ∃ f,f∈fs∧f.key=s:=by
 unfold keysV
 rw [compact_mem (sorted_keys _),List.mem_mergeSort,List.mem_map]
theorem keys_len_le (fs:List FactP):(keysV fs).length≤fs.length:=by
 have h:=str_nodup_len (asc_nodup (keys_asc fs)) (B:=fs.map (·.key)) fun x hx=>List.mem_map.2 (keys_mem.1 hx)
 rwa [List.length_map] at h
end
section
open Go Go.RowKit Num
def strsV (l:List (List UInt8)):List Value:=l.map (fun s => .string ⟨s.toArray⟩)
end
section
open Go Go.RowKit Num
def bas (ss:List (List UInt8)):List ByteArray:=ss.map fun s=>⟨s.toArray⟩
theorem bas_len (ss:List (List UInt8)):(bas ss).length=ss.length:=List.length_map ..
theorem ba_inj {a b:List UInt8} (h:(⟨a.toArray⟩:ByteArray)=⟨b.toArray⟩):a=b:=by
 injection h with h
 simpa using h
theorem bas_inj {a b:List (List UInt8)} (h:bas a=bas b):a=b:=by
 unfold bas at h
 exact List.map_inj_right (fun x y h=>ba_inj h) |>.1 h
theorem strsV_bas (ss:List (List UInt8)):strsV ss=(bas ss).map Value.string:=by unfold strsV bas;rw [List.map_map];rfl
theorem row_bas {w:World} {a:Option Addr} {ss:List (List UInt8)} (h:Row w a (strsV ss)):ss=[]∨∃ b off,a=some ⟨b,off,none⟩∧∀ j,j < (bas ss).length→w.cell? ⟨b,off+j,none⟩=some (.string ((bas ss).getD j ByteArray.empty)):=by
 rcases h with h | ⟨b,off,ha,_,hc⟩
 ·exact .inl (List.map_eq_nil_iff.1 h)
 ·refine .inr ⟨b,off,ha,fun j hj=>hc j _ ?_⟩
  rw [strsV_bas,List.getElem?_map,List.getD_eq_getElem?_getD,List.getElem?_eq_getElem hj]
  rfl
theorem equalStr_any (ss ts:List (List UInt8)) (a a2:Option Addr) (c c2:Nat) (w:World) (hn:ss.length≤1000000) (hm:ts.length≤1000000) (h:Row w a (strsV ss)) (h2:Row w a2 (strsV ts)) :
  Calls Tryz.prog 36 #[.slice a ss.length c,.slice a2 ts.length c2] w fun e w'=>e = .returned (.bool (decide (ss=ts)))∧Below w.heap.size w w':=by
 rcases row_bas h with rfl | ⟨b,off,rfl,hc⟩
 ·refine (Tryz.slices_Equal_string_empty a a2 c ts.length c2 w (by omega)).mono ?_
  rintro e w' ⟨rfl,rfl⟩
  refine ⟨?_,Below.refl _ _⟩
  congr 2
  exact decide_eq_decide.2 ⟨fun h=>(List.length_eq_zero_iff.1 h).symm,fun h=>by rw [← h];rfl⟩
 ·rcases row_bas h2 with rfl | ⟨b2,off2,rfl,hc2⟩
  ·by_cases h0:ss=[]
   ·subst h0
    refine (Tryz.slices_Equal_string_empty _ a2 c 0 c2 w (by omega)).mono ?_
    rintro e w' ⟨rfl,rfl⟩
    exact ⟨rfl,Below.refl _ _⟩
   ·have hl:ss.length ≠ 0:=fun h=>h0 (List.length_eq_zero_iff.1 h)
    refine (Tryz.slices_Equal_string_lens _ a2 ss.length c 0 c2 w hl).mono ?_
    rintro e w' ⟨rfl,rfl⟩
    exact ⟨by rw [decide_eq_false h0],Below.refl _ _⟩
  ·have h:=Tryz.slices_Equal_string b off ss.length c b2 off2 ts.length c2 (bas ss) (bas ts) w (by rw [bas_len];exact Nat.le_refl _) (by rw [bas_len];exact Nat.le_refl _) (by omega) (by omega) hc hc2
   refine h.mono ?_
   rintro e w' ⟨rfl,q,rfl⟩
   rw [List.take_of_length_le (by rw [bas_len];exact Nat.le_refl _),List.take_of_length_le (by rw [bas_len];exact Nat.le_refl _)]
   refine ⟨?_,below_drewN (Below.refl _ _) q⟩
   congr 2
   exact decide_eq_decide.2 ⟨bas_inj,fun h=>by rw [h]⟩
end
section
open Go Go.RowKit Num
theorem infoString:(Tryz.prog.info? 9).map (fun i=>(i.zero,i.size,i.bytes))=some (some (.string ⟨#[]⟩),1,16):=by kernel_rfl
theorem strsV_len (l:List (List UInt8)):(strsV l).length=l.length:=List.length_map ..
theorem ownsRow_below {w w':World} {base:Nat} {e:TypeId} {size:Nat} {x:Value} {n:Nat} {xs:List Value} (h:w.ownsRow base e size x n xs) (hb:Below w.heap.size w w'):w'.ownsRow base e size x n xs :=
 h.kept (row:=none) ⟨hb.os,hb.tape,hb.output,hb.size,fun k hk _=>hb.block k hk⟩ (Classical.em _)
theorem owned_row {w:World} {base:Nat} {e:TypeId} {v:Value} {n:Nat} {xs:List Value} (h:w.ownsRow base e 1 v n xs):∃ a c,v = .slice a n c∧Row w a xs∧n≤c∧c≤maxLen:=by
 obtain ⟨hl,⟨rfl,h0⟩ | ⟨g,cap,cur,rfl,hg,hh,hn,hm,hs,ht⟩⟩:=h
 ·exact ⟨_,_,by rw [h0],.inl (List.length_eq_zero_iff.1 (by rw [hl,h0])),by rw [h0];exact Nat.le_refl _,by unfold maxLen;omega⟩
 ·refine ⟨_,_,rfl,.inr ⟨g,0,rfl,(Array.getElem?_eq_some_iff.1 hh).1,fun k u hu => ?_⟩,hn,hm⟩
  have hk:k < n:=by have:=(List.getElem?_eq_some_iff.1 hu).1;omega
  rw [← ht,List.getElem?_take_of_lt (by omega)] at hu
  unfold World.cell?
  rw [hh,Nat.zero_add]
  simpa using hu
theorem sorted_any (ss:List (List UInt8)) (v:Value) (base:Nat) (w:World) (hn:ss.length≤1000000) (ho:w.ownsRow base 9 1 v ss.length (strsV ss)) :
  Calls Tryz.prog 62 #[v] w fun e w'=>e = .returned (.tuple #[])∧w'.ownsRow base 9 1 v ss.length (strsV (ss.mergeSort fun x y=>decide (x≤y)))∧w.grownBy w' v.ownBlock:=by
 by_cases hv:v = .slice none 0 0
 ·subst hv
  have h0:ss=[]:=by
   obtain ⟨h1,h2 | ⟨g,cap,cur,h2,_⟩⟩:=ho
   ·exact List.length_eq_zero_iff.1 h2.2
   ·cases h2
  subst h0
  refine (Tryz.slices_Sort_string_none none 0 w).mono ?_
  rintro e w' ⟨rfl,rfl⟩
  exact ⟨rfl,by simpa using ho,⟨rfl,rfl,rfl,Nat.le_refl _,fun _ _ _=>rfl⟩⟩
 ·obtain ⟨g,cap,rfl,hg,hlt,hnc,hcm,_,hH⟩:=Go.Lib.holds_of_ownsRow (enc:=encStr) (zs:=ss) ho hv
  refine (Tryz.slices_Sort_string g 0 cap ss w hH hlt (by omega)).mono ?_
  rintro e w' ⟨rfl,n,os,rfl⟩
  obtain ⟨_,⟨h,_⟩ | ⟨g',cap',cur,h,hb,hh,h1,h2,h3,h4⟩⟩:=ho
  ·cases h
  ·injection h with e1 _ e3
   injection e1 with e1
   injection e1 with e1
   subst e1;subst e3
   exact ⟨rfl,ownsRow_sorted (by simp) hb hh h1 h2 h3,grownBy_sorted _⟩
theorem compacted_any (ss:List (List UInt8)) (v:Value) (base:Nat) (w:World) (hn:ss.length≤1000000) (ho:w.ownsRow base 9 1 v ss.length (strsV ss)) :
  Calls Tryz.prog 38 #[v] w fun e w' => ∃ v',e = .returned v'∧w'.ownsRow base 9 1 v' (Go.Lib.compact ss).length (strsV (Go.Lib.compact ss))∧w.grownBy w' v.ownBlock:=by
 by_cases hv:v = .slice none 0 0
 ·subst hv
  have h0:ss=[]:=by
   obtain ⟨h1,h2 | ⟨g,cap,cur,h2,_⟩⟩:=ho
   ·exact List.length_eq_zero_iff.1 h2.2
   ·cases h2
  subst h0
  refine (Tryz.slices_Compact_string_empty none 0 w).mono ?_
  rintro e w' ⟨rfl,rfl⟩
  exact ⟨_,rfl,ho,⟨rfl,rfl,rfl,Nat.le_refl _,fun _ _ _=>rfl⟩⟩
 ·obtain ⟨g,cap,rfl,hg,hlt,hnc,hcm,_,hH⟩:=Go.Lib.holds_of_ownsRow (enc:=encStr) (zs:=ss) ho hv
  refine (Tryz.slices_Compact_string g 0 cap ss w hH (by omega) hnc).mono ?_
  rintro e w' ⟨rfl,q,rfl⟩
  have hle:=Go.Lib.compact_length_le ss
  have h:=Go.Lib.ownsRow_putRow (enc:=encStr) (q:=q) (k:=(Go.Lib.compact ss).length) (ys:=Go.Lib.compact ss ++ List.replicate (ss.length - (Go.Lib.compact ss).length) []) ho (by simp;omega) hle
  rw [List.take_left' rfl] at h
  refine ⟨_,rfl,h,?_⟩
  have hg2:=grownBy_sorted (w:=w) (g:=g) (n:=q) (os:=#[]) (Go.Lib.compact ss ++ List.replicate (ss.length - (Go.Lib.compact ss).length) []).toArray
  rw [Go.Sort.grow_empty] at hg2
  exact hg2
theorem keys_any (xs:List FactV) (a:Option Addr) (c:Nat) (k:Nat) (hk:k≤xs.length) (w:World) (hE:Env w) (hl:LogAt w a c xs) (h0:lcheck (xs.map FactV.f)=0) :
  Calls Tryz.prog 32 #[.slice a xs.length c,.int .i64 (k:Int)] w fun e w' => ∃ v,e = .returned (.tuple #[v,.int .i64 0])∧w'.ownsRow w.heap.size 9 1 v (keysV ((xs.take k).map FactV.f)).length (strsV (keysV ((xs.take k).map FactV.f)))∧Below w.heap.size w w':=by
 have HK:Hid (Calls Tryz.prog 43 #[.slice a xs.length c,.int .i64 (k:Int)] w fun e w'=>e = .returned (.int .i64 0)∧Below w.heap.size w w'):=by
  have h:=checkK_any xs a c k w hE hl
  have e:lcheckK (xs.map FactV.f) k=0:=by unfold lcheckK;rw [if_neg (by simpa using h0),if_neg (by rw [List.length_map];omega)]
  rw [e] at h
  exact h
 obtain ⟨i0,hi,hz0,hz1,hz2⟩:=info_parts infoString
 have HL:=Lib.hid hl
 have hlen:=hl.len
 have hcap:=hl.cap
 clear hE hl h0
 go_enter Tryz.func32,Tryz.ntmps32
 go_wp2_with fail
 refine HK.out.mono ?_
 rintro e w1 ⟨rfl,hb1⟩
 have HB1:=Lib.hid hb1
 clear hb1 HK
 go_wp2_with fail
 go_loopw [7,20] (fun ov iv wr => ∃ j:Nat,j≤k∧iv = .int .i64 j∧Hid (wr.ownsRow w.heap.size 9 1 ov j (strsV ((xs.take j).map fun x=>x.f.key)))∧Hid (Below w.heap.size w wr)) (fun _ iv _=>k - (intOf iv).toNat)
 case atStart=>exact ⟨0,Nat.zero_le _,rfl,World.ownsRow_nil _ _ _ _,HB1⟩
 case round =>
  obtain ⟨j,hj,rfl,HO,HB⟩:=hrel
  by_cases hlt:j < k
  ·obtain ⟨x,hx⟩:∃ x,xs[j]? = some x:=⟨xs[j],List.getElem?_eq_getElem (by omega)⟩
   obtain ⟨b,off,rfl,hbl,hc⟩:=HL.out.facts.1.addr (k:=j) (cs:=x.cells) (by rw [List.getElem?_map,hx];rfl)
   have HC:Hid (∀ i v,x.arr.toList[i]? = some v→wr.cell? ⟨b,off+j * 21+i,none⟩=some v):=fun i v hv=>(HB.out.cell (p:=⟨b,off+j * 21+i,none⟩) hbl).trans (hc i v hv)
   have HSZ:Hid ((Tryz.prog.info? 36).map (·.size)=some x.arr.size):=factSize x.f x.pa x.oa x.pc x.oc
   have HONE:=Lib.hid (cells_one x)
   have HST:Hid (x.arr[0]? = some (.string ⟨x.f.key.toArray⟩)):=rfl
   have hsz21:x.arr.size=21:=rfl
   have HNX:Hid ((xs.take (j+1)).map (fun x=>x.f.key)=(xs.take j).map (fun x=>x.f.key) ++ [x.f.key]):=by show _=_;rw [List.take_add_one,hx,List.map_append];rfl
   clear hc hx
   generalize x.arr=fc at *
   generalize x.f.key=kx at *
   have c1:((wr.alloc (.cells Z21 36)).setRow wr.heap.size fc).cell? ⟨wr.heap.size,0,none⟩=some (.string ⟨kx.toArray⟩) :=
    ((show Box ((wr.alloc (.cells Z21 36)).setRow wr.heap.size fc) wr.heap.size fc 36 from ⟨by simp [World.setRow],setRow_heap _ _ _ _ _ _ (heap_alloc_new wr (.cells Z21 36))⟩).cell 0).trans HST.out
   have HBr0:Below wr.heap.size wr ((wr.alloc (.cells Z21 36)).setRow wr.heap.size fc):=below_setRow (below_alloc _ _) (Nat.le_refl _) fc
   have HO2:=Lib.hid (ownsRow_below HO.out HBr0)
   have HB2:=Lib.hid (below_up HB.out HBr0)
   have HS21:Hid (Z21.size=fc.size):=hsz21.symm
   have HNEW:=Lib.hid (heap_alloc_new wr (.cells Z21 36))
   clear hsz21 HST HBr0 HO
   unfold Z21 at c1
   have HCN:Hid ((((wr.alloc (.cells Z21 36)).setRow wr.heap.size fc).alloc (.cells #[.string ⟨kx.toArray⟩] 9)).cell? ⟨wr.heap.size+1,0,none⟩=some (.string ⟨kx.toArray⟩)):=by
    have h:=cell_one_new ((wr.alloc (.cells Z21 36)).setRow wr.heap.size fc) (.string ⟨kx.toArray⟩) 9
    have e:((wr.alloc (.cells Z21 36)).setRow wr.heap.size fc).heap.size=wr.heap.size+1:=by simp [World.setRow]
    rw [e] at h
    exact h 0 _ rfl
   go_wp2_with (first | (refine wpList_load_at rfl 36 _ rfl b (off+j * 21) rfl fc _ HC.out Tryz.underlying36 rfl HSZ.out ?_) | (refine wpList_store_row rfl 36 _ _ rfl wr.heap.size fc rfl rfl 36 Z21 HNEW.out HSZ.out HS21.out HONE.out ?_) | (at_builtin;refine wpList_append_own_at _ rfl _ _ 58 rfl w.heap.size 9 i0 (.string ⟨#[]⟩) 1 16 Tryz.underlying58 hi hz0 hz1 hz2 rfl (by decide) _ _ _ rfl (HO2.out.alloc _) ⟨wr.heap.size+1,0,none⟩ 1 1 [.string ⟨kx.toArray⟩] rfl rfl ?c1 ?c2 ?c3 ?c4 ?c5 ?_))
   case c1 =>
    intro j u hj
    match j,hj with
    | 0,hj=>simp at hj;subst hj;exact HCN.out
   case c2=>intro u hu;simp at hu;subst hu;rfl
   case c3=>unfold maxLen;omega
   case c4=>omega
   case c5=>exact Nat.le_trans HB2.out.size (by rw [World.size_alloc];exact Nat.le_succ _)
   intro v' w3 hown' hgrow _ _
   have HB3:=Lib.hid (grown_below (HO2.out.alloc (.cells #[.string ⟨kx.toArray⟩] 9)) hgrow (below_up HB2.out (below_alloc _ _)) (Nat.le_trans HB2.out.size (by rw [World.size_alloc];exact Nat.le_succ _)))
   have HO3:Hid (w3.ownsRow w.heap.size 9 1 v' (j+1) (strsV ((xs.take (j+1)).map fun x=>x.f.key))):=by
    show World.ownsRow _ _ _ _ _ _ _
    rw [HNX.out]
    simpa [strsV] using hown'
   clear hgrow hown'
   go_wp2
   go_roundw
   case rel=>exact ⟨j+1,by omega,by go_num,HO3,HB3⟩
   case measure=>simp [intOf];omega
  ·obtain rfl:j=k:=by omega
   have hkl:((xs.take j).map fun x=>x.f.key).length=j:=by rw [List.length_map,List.length_take];omega
   have HKV:Hid (keysV ((xs.take j).map FactV.f)=Go.Lib.compact (((xs.take j).map fun x=>x.f.key).mergeSort fun x y=>decide (x≤y))):=by
    show _=_
    unfold keysV
    rw [List.map_map]
    rfl
   generalize (xs.take j).map (fun x=>x.f.key)=ss at *
   have HO':=HO.out
   rw [← hkl] at HO'
   have HS:=Lib.hid (sorted_any ss _ w.heap.size wr (by omega) HO')
   have HO':=Lib.hid HO'
   go_wp2_with fail
   refine HS.out.mono ?_
   rintro e w2 ⟨rfl,ho2,hg2⟩
   have HB2:=Lib.hid (grown_below HO'.out hg2 HB.out HB.out.size)
   have hml:(ss.mergeSort fun x y=>decide (x≤y)).length=ss.length:=by simp
   rw [← hml] at ho2
   have HC:=Lib.hid (compacted_any _ _ w.heap.size w2 (by omega) ho2)
   have HO2:=Lib.hid ho2
   clear ho2 hg2 HS HO'
   rw [← HKV.out] at HC
   go_wp2_with fail
   refine HC.out.mono ?_
   rintro e w3 ⟨v',rfl,ho3,hg3⟩
   have HE3:=Lib.hid (grown_below HO2.out hg3 HB2.out HB2.out.size)
   have HO3:=Lib.hid ho3
   clear ho3 hg3
   go_wp2
   go_ret2
   exact ⟨v',rfl,HO3.out,HE3.out⟩
end
end Go.Proofs.YtgopbldkhlmbnaaGreatDoor
