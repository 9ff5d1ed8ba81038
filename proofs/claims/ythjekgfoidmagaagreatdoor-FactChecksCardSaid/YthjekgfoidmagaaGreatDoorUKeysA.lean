/- Owned Keys Deleted -/
import Derived.Test.YthjekgfoidmagaaGreatDoorUViewA
import Derived.Lib.OwnBridge
import Derived.Sort.OwnSorted
import Derived.Lib.LazyBuf
set_option maxHeartbeats 16000000
set_option maxRecDepth 100000
namespace Go.Proofs.YthjekgfoidmagaaGreatDoor
open Go.Proofs.Tryz
section
open Go Go.RowKit Num
theorem aD9{w w':World}{base:Nat}{e:TypeId}{size:Nat}{x:Value}{n:Nat}{xs:List Value}(h:w.ownsRow base e size x n xs)(hb:Below w.heap.size w w'):w'.ownsRow base e size x n xs :=
 h.kept (row:=none) ⟨hb.os,hb.tape,hb.output,hb.size,fun k hk _=>hb.block k hk⟩ (Classical.em _)
end
section
open Go Go.RowKit Num
theorem bCu:(prog.info? 9).map (fun i=>(i.zero,i.size,i.bytes))=some (some (.string ⟨#[]⟩),1,16):=by kernel_rfl
theorem bCr(ss:List (List UInt8))(v:Value)(base:Nat)(w:World)(hn:ss.length<=1000000)(ho:w.ownsRow base 9 1 v ss.length (iS ss)):
  Calls prog 50 #[v] w fun e w'=>e=.returned (.tuple #[])/\w'.ownsRow base 9 1 v ss.length (iS (ss.mergeSort fun x y=>decide (x<=y)))/\w.grownBy w' v.ownBlock:=by
 by_cases hv:v=.slice none 0 0
 ·subst hv;have h0:ss=[]:=by
   obtain⟨h1,h2|⟨g,cap,cur,h2,_⟩⟩:=ho
   ·exact List.length_eq_zero_iff.1 h2.2
   ·cases h2
  subst h0;refine(slices_Sort_string_none none 0 w).mono ?_;rintro e w' ⟨rfl,rfl⟩;exact⟨rfl,by simpa using ho,⟨rfl,rfl,rfl,Nl _,fun _ _ _=>rfl⟩⟩
 ·obtain⟨g,cap,rfl,hg,hlt,hnc,hcm,_,hH⟩:=Go.Lib.holds_of_ownsRow (enc:=encStr) (zs:=ss) ho hv;refine(slices_Sort_string g 0 cap ss w hH hlt (by omega)).mono ?_;rintro e w' ⟨rfl,n,os,rfl⟩;obtain⟨_,⟨h,_⟩|⟨g',cap',cur,h,hb,hh,h1,h2,h3,h4⟩⟩:=ho
  ·cases h
  ·injection h with e1 _ e3
   injection e1 with e1
   injection e1 with e1
   subst e1;subst e3;exact⟨rfl,ownsRow_sorted (by simp) hb hh h1 h2 h3,grownBy_sorted _⟩
theorem bCe(ss:List (List UInt8))(v:Value)(base:Nat)(w:World)(hn:ss.length<=1000000)(ho:w.ownsRow base 9 1 v ss.length (iS ss)):
  Calls prog 51 #[v] w fun e w'=>∃v',e=.returned v'/\w'.ownsRow base 9 1 v' (Go.Lib.compact ss).length (iS (Go.Lib.compact ss))/\w.grownBy w' v.ownBlock:=by
 by_cases hv:v=.slice none 0 0
 ·subst hv;have h0:ss=[]:=by
   obtain⟨h1,h2|⟨g,cap,cur,h2,_⟩⟩:=ho
   ·exact List.length_eq_zero_iff.1 h2.2
   ·cases h2
  subst h0;refine(slices_Compact_string_empty none 0 w).mono ?_;rintro e w' ⟨rfl,rfl⟩;exact⟨_,rfl,ho,⟨rfl,rfl,rfl,Nl _,fun _ _ _=>rfl⟩⟩
 ·obtain⟨g,cap,rfl,hg,hlt,hnc,hcm,_,hH⟩:=Go.Lib.holds_of_ownsRow (enc:=encStr) (zs:=ss) ho hv;refine(slices_Compact_string g 0 cap ss w hH (by omega) hnc).mono ?_;rintro e w' ⟨rfl,q,rfl⟩;have hle:=Go.Lib.compact_length_le ss;have h:=Go.Lib.ownsRow_putRow (enc:=encStr) (q:=q) (k:=(Go.Lib.compact ss).length) (ys:=Go.Lib.compact ss++List.replicate (ss.length-(Go.Lib.compact ss).length) []) ho (by simp;omega) hle;rw[List.take_left' rfl] at h;refine⟨_,rfl,h,?_⟩;have hg2:=grownBy_sorted (w:=w) (g:=g) (n:=q) (os:=#[]) (Go.Lib.compact ss++List.replicate (ss.length-(Go.Lib.compact ss).length) []).toArray;rw[Go.Sort.grow_empty] at hg2;exact hg2
end
section
open Go Go.RowKit Num
theorem bDc{p n:Nat}(h:p<n):bBf p n=(p:Int):=by unfold bBf;rw[if_pos h]
end
end Go.Proofs.YthjekgfoidmagaaGreatDoor
