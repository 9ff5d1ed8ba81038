/- AgingP Late Elections -/
import Derived.Test.YtbcebibkpfklnaaGreatDoorJMem
import Derived.Test.YtbcebibkpfklnaaGreatDoorJOpen
import Derived.Test.YtbcebibkpfklnaaGreatDoorJDate
import Derived.Test.YtbcebibkpfklnaaGreatDoorJWhereA
import Derived.Test.YtbcebibkpfklnaaGreatDoorJViewA
import Derived.Test.YtbcebibkpfklnaaGreatDoorJElectionA
import Derived.Test.YtbcebibkpfklnaaGreatDoorJRowF
import Derived.Maps.AppendAt
set_option maxHeartbeats 16000000
set_option maxRecDepth 100000
namespace Go.Proofs.YtbcebibkpfklnaaGreatDoor
section
open Go.RowKit Num Dt
theorem Ut{w w':World}{base:Nat}{e:TypeId}{size:Nat}{x:Value}{n:Nat}{xs:List Value}{w0:World}(h:w.ownsRow base e size x n xs)(hg:w.grownBy w' x.ownBlock)(hb:Below base w0 w)(hB:base≤w.heap.size):Below base w0 w' :=
 hb.grown hg hB (fun k hk=>(h.lt k hk).1)
end
section
open Go Go.RowKit Go.Shelf Num
attribute [local go_sem] Oper.semAt_some
theorem aGm(xs:List aF)(a:Option Addr)(c:Nat)(w:World)(hE:iE w)(hv:gT w a c xs)(hvc:dF (xs.map aF.f)≠0):
  Calls Tryz.prog 21 #[.slice a xs.length c] w fun e w'=>e=.returned (.tuple #[.slice none 0 0,.int .i64 1])∧Below w.heap.size w w':=by
 have HVC:Hid (∀W,Below w.heap.size w W→Calls Tryz.prog 38 #[.slice a xs.length c] W fun e w'=>e=.returned (.int .i64 (dF (xs.map aF.f)))∧Below W.heap.size W w'):=fun W hbw=>lC xs a c W (hE.below hbw) hv.len (hv.facts.below hbw) hv.ok
 have cS:=(aP.new0 w #[.slice a xs.length c] 22).cell 0;have HB0:=Hd (aB w (.cells #[.slice a xs.length c] 22));clear hE hv;generalize dF (xs.map aF.f)=ve at *;have hv':(ve==0)=false:=by simpa using hvc
 go_enter Tryz.func21,Tryz.ntmps21;go_wp2_with fail;refine(HVC.out _ HB0.out).mono ?_;rintro e w1 ⟨rfl,hb⟩;have HB1:=Hd (aA HB0.out hb);clear hb;go_wp2_with fail;go_ret2;exact⟨rfl,HB1.out⟩
end
section
open Go Go.RowKit Go.Shelf Num
attribute [local go_sem] Oper.semAt_some
theorem aFv(xs:List aF)(a:Option Addr)(c:Nat)(key:List UInt8)(w:World)(hE:iE w)(hv:gT w a c xs)(hvc:dF (xs.map aF.f)≠0):
  Calls Tryz.prog 20 #[.slice a xs.length c,.string ⟨key.toArray⟩] w fun e w'=>e=.returned (.tuple #[.slice none 0 0,.int .i64 1])∧Below w.heap.size w w':=by
 have HVC:Hid (∀W,Below w.heap.size w W→Calls Tryz.prog 38 #[.slice a xs.length c] W fun e w'=>e=.returned (.int .i64 (dF (xs.map aF.f)))∧Below W.heap.size W w'):=fun W hbw=>lC xs a c W (hE.below hbw) hv.len (hv.facts.below hbw) hv.ok
 have HB0:=Hd (aB w (.cells #[.string ⟨key.toArray⟩] 9));clear hE hv;generalize dF (xs.map aF.f)=ve at *;have hv':(ve==0)=false:=by simpa using hvc
 go_enter Tryz.func20,Tryz.ntmps20;go_wp2_with fail;refine(HVC.out _ HB0.out).mono ?_;rintro e w1 ⟨rfl,hb⟩;have HB1:=Hd (aA HB0.out hb);clear hb;go_wp2_with fail;go_ret2;exact⟨rfl,HB1.out⟩
theorem aFe(xs:List aF)(a:Option Addr)(c:Nat)(key:List UInt8)(w:World)(hE:iE w)(hv:gT w a c xs)(hvc:dF (xs.map aF.f)=0)(hkl:key.length≤1000)(hkn:dC key=false):
  Calls Tryz.prog 20 #[.slice a xs.length c,.string ⟨key.toArray⟩] w fun e w'=>e=.returned (.tuple #[.slice none 0 0,.int .i64 23])∧Below w.heap.size w w':=by
 have HVC:Hid (∀W,Below w.heap.size w W→Calls Tryz.prog 38 #[.slice a xs.length c] W fun e w'=>e=.returned (.int .i64 0)∧Below W.heap.size W w'):=fun W hbw=>by have:=lC xs a c W (hE.below hbw) hv.len (hv.facts.below hbw) hv.ok;rw[hvc] at this;exact this
 have HNM:Hid (∀W,Calls Tryz.prog 44 #[.string ⟨key.toArray⟩] W fun e w'=>e=.returned (.bool false)∧Below W.heap.size W w'):=fun W=>by have:=qW key W (by omega);rw[hkn] at this;exact this
 have KS:=Hd (aP.new0 w #[.string ⟨key.toArray⟩] 9);have HB0:=Hd (aB w (.cells #[.string ⟨key.toArray⟩] 9));clear hE hv hvc hkn;generalize xs.length=n at *;go_enter Tryz.func20,Tryz.ntmps20;go_wp2_with fail;refine(HVC.out _ HB0.out).mono ?_;rintro e w1 ⟨rfl,hb⟩;have HB1:=Hd (aA HB0.out hb);have cS:=(KS.out.below hb).cell 0;clear hb;go_wp2_with fail;refine(HNM.out _).mono ?_;rintro e w2 ⟨rfl,hb⟩;have HB2:=Hd (aA HB1.out hb);clear hb;go_wp2_with fail;go_ret2;exact⟨rfl,HB2.out⟩
end
end Go.Proofs.YtbcebibkpfklnaaGreatDoor
