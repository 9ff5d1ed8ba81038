/- Owned Keys Shelf4 StrsC Deleted -/
import Derived.Test.YthjekgfoidmagaaGreatDoorUViewA
import Derived.Lib.OwnBridge
import Derived.Sort.OwnSorted
import Derived.Lib.LazyBuf
set_option maxHeartbeats 16000000
set_option maxRecDepth 100000
section
namespace Go.Proofs.YthjekgfoidmagaaGreatDoor
open Go.Proofs.Tryz
open Go Go.RowKit Num
theorem aD9{w w':World}{base:Nat}{e:TypeId}{size:Nat}{x:Value}{n:Nat}{xs:List Value}(h:w.ownsRow base e size x n xs)(hb:Below w.heap.size w w'):w'.ownsRow base e size x n xs :=
 h.kept (row:=none) ⟨hb.os,hb.tape,hb.output,hb.size,fun k hk _=>hb.block k hk⟩ (Classical.em _)
end Go.Proofs.YthjekgfoidmagaaGreatDoor
end
section
namespace Go.Proofs.YthjekgfoidmagaaGreatDoor
open Go.Proofs.Tryz
open Go Go.RowKit Num
theorem bCu:(prog.info? 9).map (fun i=>(i.zero,i.size,i.bytes))=some (some (.string ⟨#[]⟩),1,16):=by kernel_rfl
theorem bCy(l:List (List UInt8)):iS l=l.map encStr:=rfl
theorem bCx(l:List (List UInt8)):(iS l).length=l.length:=List.length_map ..
theorem bCr(ss:List (List UInt8))(v:Value)(base:Nat)(w:World)(hn:ss.length<=1000000)(ho:w.ownsRow base 9 1 v ss.length (iS ss)):
  Calls prog 50 #[v] w fun e w'=>e=.returned (.tuple #[])/\w'.ownsRow base 9 1 v ss.length (iS (ss.mergeSort fun x y=>decide (x<=y)))/\w.grownBy w' v.ownBlock:=by
 by_cases hv:v=.slice none 0 0
 ·subst hv;have h0:ss=[]:=by
   obtain⟨h1,h2|⟨g,cap,cur,h2,_⟩⟩:=ho
   ·exact List.length_eq_zero_iff.1 h2.2
   ·cases h2
  subst h0;refine(slices_Sort_string_none none 0 w).mono ?_;rintro e w' ⟨rfl,rfl⟩;exact⟨rfl,by simpa using ho,⟨rfl,rfl,rfl,Nl _,fun _ _ _=>rfl⟩⟩
 ·obtain⟨g,cap,rfl,hg,hlt,hnc,hcm,_,hH⟩:=Go.Lib.holds_of_ownsRow (enc:=encStr) (zs:=ss) ho hv;refine(slices_Sort_string g 0 cap ss w hH hlt (by omega)).mono ?_;rintro e w' ⟨rfl,n,os,rfl⟩;obtain⟨_,⟨h,_⟩|⟨g',cap',cur,h,hb,hh,h1,h2,h3,h4⟩⟩:=ho
  ·cases h
  ·injection h with e1 _ e3
   injection e1 with e1
   injection e1 with e1
   subst e1;subst e3;exact⟨rfl,ownsRow_sorted (by simp) hb hh h1 h2 h3,grownBy_sorted _⟩
theorem bCe(ss:List (List UInt8))(v:Value)(base:Nat)(w:World)(hn:ss.length<=1000000)(ho:w.ownsRow base 9 1 v ss.length (iS ss)):
  Calls prog 51 #[v] w fun e w'=>∃v',e=.returned v'/\w'.ownsRow base 9 1 v' (Go.Lib.compact ss).length (iS (Go.Lib.compact ss))/\w.grownBy w' v.ownBlock:=by
 by_cases hv:v=.slice none 0 0
 ·subst hv;have h0:ss=[]:=by
   obtain⟨h1,h2|⟨g,cap,cur,h2,_⟩⟩:=ho
   ·exact List.length_eq_zero_iff.1 h2.2
   ·cases h2
  subst h0;refine(slices_Compact_string_empty none 0 w).mono ?_;rintro e w' ⟨rfl,rfl⟩;exact⟨_,rfl,ho,⟨rfl,rfl,rfl,Nl _,fun _ _ _=>rfl⟩⟩
 ·obtain⟨g,cap,rfl,hg,hlt,hnc,hcm,_,hH⟩:=Go.Lib.holds_of_ownsRow (enc:=encStr) (zs:=ss) ho hv;refine(slices_Compact_string g 0 cap ss w hH (by omega) hnc).mono ?_;rintro e w' ⟨rfl,q,rfl⟩;have hle:=Go.Lib.compact_length_le ss;have h:=Go.Lib.ownsRow_putRow (enc:=encStr) (q:=q) (k:=(Go.Lib.compact ss).length) (ys:=Go.Lib.compact ss++List.replicate (ss.length-(Go.Lib.compact ss).length) []) ho (by simp;omega) hle;rw[List.take_left' rfl] at h;refine⟨_,rfl,h,?_⟩;have hg2:=grownBy_sorted (w:=w) (g:=g) (n:=q) (os:=#[]) (Go.Lib.compact ss++List.replicate (ss.length-(Go.Lib.compact ss).length) []).toArray;rw[Go.Sort.grow_empty] at hg2;exact hg2
end Go.Proofs.YthjekgfoidmagaaGreatDoor
end
section
namespace Go.Proofs
open Go.Proofs.Tryz
def lays110_ren:Go.Shelf.Ren:=⟨fun|110=>30|109=>81|n=>n,fun|31=>36|9=>9|4=>4|3=>3|0=>0|n=>n,fun|n=>n⟩
theorem lays110:Go.Proofs.Lays.n110 prog lays110_ren:=by iterate 4 all_goals first|kernel_rfl|(intro _;kernel_rfl)|constructor|decide
open Go.Lib in
theorem slices_Contains_string(b off n c:Nat)(zs:List ByteArray)(x:ByteArray)(w:World)(hz:n<=zs.length)(hbig:n<=9223372036854775807)(hc:∀j,j<zs.length->w.cell? ⟨b,off+j,none⟩=some (.string (zs.getD j ByteArray.empty))):
  Calls prog 30 #[.slice (some ⟨b,off,none⟩) n c,.string x] w fun e w'=>e=.returned (.bool (Lib.containsS (zs.take n) x))/\w'=w:=Any.slices_Contains_string lays110 b off n c zs x w hz hbig hc
open Go.Lib in
theorem slices_Contains_string_empty(a:Option Addr)(c:Nat)(x:ByteArray)(w:World):
  Calls prog 30 #[.slice a 0 c,.string x] w fun e w'=>e=.returned (.bool false)/\w'=w:=Any.slices_Contains_string_empty lays110 a c x w
end Go.Proofs
end
section
namespace Go.Proofs.YthjekgfoidmagaaGreatDoor
open Go.Proofs.Tryz
open Go Go.RowKit Num
theorem aFh(ss:List (List UInt8))(a:Option Addr)(c:Nat)(x:List UInt8)(w:World)(hn:ss.length<=1000000)(h:dT w a (iS ss)):
  Calls prog 30 #[.slice a ss.length c,.string ⟨x.toArray⟩] w fun e w'=>e=.returned (.bool (ss.contains x))/\w'=w:=by
 rcases Nw h with rfl|⟨b,off,rfl,hc⟩
 ·exact slices_Contains_string_empty a c _ w
 ·have h:=slices_Contains_string b off ss.length c (Wi ss) ⟨x.toArray⟩ w (by rw[yJ];exact Nl _) (by omega) hc;rw[<-yJ,List.take_length,yJ] at h;have e:Lib.containsS (Wi ss) ⟨x.toArray⟩=ss.contains x:=by
   rw[Bool.eq_iff_iff,Lib.containsS_iff,List.contains_iff_mem];unfold Wi;rw[List.mem_map];constructor
   ·rintro⟨y,hy,e⟩;exact aDo e ▸ hy
   ·exact fun hx=>⟨x,hx,rfl⟩
  rw[e] at h;exact h
end Go.Proofs.YthjekgfoidmagaaGreatDoor
end
section
namespace Go.Proofs.YthjekgfoidmagaaGreatDoor
open Go.Proofs.Tryz
open Go Go.RowKit Num
theorem bDc{p n:Nat}(h:p<n):bBf p n=(p:Int):=by unfold bBf;rw[if_pos h]
end Go.Proofs.YthjekgfoidmagaaGreatDoor
end
