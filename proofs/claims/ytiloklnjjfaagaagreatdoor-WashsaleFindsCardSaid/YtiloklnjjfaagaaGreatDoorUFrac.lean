/- Frac2 Frac3 -/
import Derived.Test.YtiloklnjjfaagaaGreatDoorUGcd
import Derived.Laws.EntriesVeiled
set_option maxHeartbeats 16000000
set_option maxRecDepth 100000
namespace Go.Proofs.YtiloklnjjfaagaaGreatDoor
section
open Go.RowKit Num
def Cu(n d:List UInt8):Bool:=n==aJ (eT (val n) (lU d))&&d==nD (fT (val n) (lU d))
theorem qR{d:List UInt8}{K:Nat}(hK:1<=K)(h:d.length<=K):(jN d).length<=K:=by unfold jN;split;simpa using hK;exact h
end
section
open Go.RowKit Num
def iY(n d n' d':List UInt8):Int:=val n*lU d'-val n'*lU d
def iG(d d':List UInt8):Int:=lU d*lU d'
end
end Go.Proofs.YtiloklnjjfaagaaGreatDoor
