/- Rem HistP Sorted -/
import Derived.Test.YtgopbldkhlmbnaaGreatDoorJNum
import Derived.Test.YtgopbldkhlmbnaaGreatDoorJWith
import Derived.Test.YtgopbldkhlmbnaaGreatDoorJOpen
import Derived.BigQuiet
set_option maxHeartbeats 16000000
set_option maxRecDepth 100000
namespace Go.Proofs.YtgopbldkhlmbnaaGreatDoor
section
open Go.RowKit Num
theorem wpList_rem {P:Program} (w:World) {ops:Array Oper} {rest:List Oper} {o:Oper} {a:Act} {Q:Exit→Act→World→Prop} (hg:o.guard=none) (dst:Option Tmp) (hdst:o.dst=dst) (s x:Operand) (t u:TypeId) (ho:o.op = .binOp .rem t s x u) (k:IntKind) (m n r:Int)
  (hs:a.eval s = .int k m) (hx:a.eval x = .int k n) (hn:n ≠ 0) (hr:m.tmod n=r) (h:wpList P ops Q rest (a.put dst (.int k r)) w):wpList P ops Q (o :: rest) a w:=by
 subst hdst
 refine wpList_plain hg fun K hK => ?_
 have hrun:(Go.Op.intDiv .rem k m n).run P w = .ok (.int k r) w:=by
  unfold Go.Op.intDiv
  rw [if_neg hn,hr]
  rfl
 unfold Oper.wp
 simp [execOp,ho,hs,hx,Result.andThen,binOp,eqGuard,hrun]
 exact hK _ _ h
theorem wpList_cat {P:Program} (w:World) {ops:Array Oper} {rest:List Oper} {o:Oper} {a:Act} {Q:Exit→Act→World→Prop} (hg:o.guard=none) (dst:Option Tmp) (hdst:o.dst=dst) (s x:Operand) (t u:TypeId) (ho:o.op = .binOp .add t s x u) (bs:ByteArray) (l m:List UInt8)
  (hs:a.eval s = .string bs) (hb:bs=⟨l.toArray⟩) (hx:a.eval x = .string ⟨m.toArray⟩) (hl:l.length+m.length≤1000000) (h:wpList P ops Q rest (a.put dst (.string ⟨(l ++ m).toArray⟩)) w):wpList P ops Q (o :: rest) a w:=by
 subst hdst
 subst hb
 refine wpList_plain hg fun K hK => ?_
 have hrun:(Go.Op.stringOp .add ⟨l.toArray⟩ ⟨m.toArray⟩).run P w = .ok (.string ⟨(l ++ m).toArray⟩) w:=by
  have hsz:¬ (((⟨l.toArray⟩:ByteArray).size+(⟨m.toArray⟩:ByteArray).size:Nat):Int) > IntKind.i64.max:=by
   have e1:(⟨l.toArray⟩:ByteArray).size=l.length:=rfl
   have e2:(⟨m.toArray⟩:ByteArray).size=m.length:=rfl
   have e3:IntKind.i64.max=9223372036854775807:=rfl
   rw [e1,e2,e3]
   omega
  have hap:(⟨l.toArray⟩:ByteArray) ++ ⟨m.toArray⟩=⟨(l ++ m).toArray⟩:=by
   apply ByteArray.ext
   simp
  unfold Go.Op.stringOp
  simp only
  rw [if_neg hsz,hap]
  rfl
 unfold Oper.wp
 simp [execOp,ho,hs,hx,Result.andThen,binOp,eqGuard,hrun]
 exact hK _ _ h
end
section
open Go.RowKit Num
theorem fwd_zero (fs:List FactP) (key:List UInt8) (n:Nat):fwd fs key n 0=(List.range n).filter (keyAt fs key):=by unfold fwd;rw [List.drop_zero]
theorem fwd_succ (fs:List FactP) (key:List UInt8) (n:Nat):fwd fs key (n+1) 0=if keyAt fs key n=true then fwd fs key n 0 ++ [n] else fwd fs key n 0:=by
 rw [fwd_zero,fwd_zero,List.range_succ,List.filter_append]
 by_cases h:keyAt fs key n=true
 ·rw [if_pos h];simp [h]
 ·rw [if_neg h];simp [h]
theorem keyAt_take {fs:List FactP} {key:List UInt8} {k i:Nat} (h:i < k):keyAt (fs.take k) key i=keyAt fs key i:=by unfold keyAt;rw [List.getElem?_take_of_lt h]
theorem bwd_take {fs:List FactP} {key:List UInt8} {k n:Nat} (h:n≤k):bwd (fs.take k) key n=bwd fs key n:=by
 induction n with
 | zero=>rfl
 | succ n ih =>
  unfold bwd
  rw [keyAt_take (by omega),ih (by omega)]
end
end Go.Proofs.YtgopbldkhlmbnaaGreatDoor
