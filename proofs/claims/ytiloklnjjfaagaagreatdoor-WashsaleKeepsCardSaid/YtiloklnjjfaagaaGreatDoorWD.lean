/- WDefd -/
import Derived.Test.YtiloklnjjfaagaaGreatDoorWA
set_option maxHeartbeats 16000000
set_option maxRecDepth 100000
namespace Go.Proofs.YtiloklnjjfaagaaGreatDoor
open Go Go.RowKit Num
theorem dJz:bZp []:=(dB2 []).1 rfl
theorem dJg{gs:List aLe}{ins:List UInt8}(h:∀x,x∈gs->x.err=0):dEk [] gs 0 0 []=0/\dDj gs ins=aJ (bXk (dBq ins) gs):=by
 have h0:dEk [] gs 0 0 []=0:=dIi dJz h (fun s hs=>by cases hs) ⟨by decide,by decide⟩ ⟨by decide,by decide⟩;exact⟨h0,by unfold dDj;rw[if_pos h0]⟩
theorem dJ3{s:bWs}(F:dD8 s)(ins:List UInt8):(aJ (bXk (dBq ins) s.gains)).length<=100:=by
 obtain⟨d0,d1⟩:=dF9 F.ok;have hl:=F.los;have hd:∀x,x∈s.gains->0<=val x.df:=fun x hx=>(bY2.1 (F.ok.gains x hx)).2.2.2.2.2.1
 have h0:0<=bXk (dBq ins) s.gains:=bZ2 fun x hx=>by
  unfold dBq;split
  ·exact hd x hx
  ·exact Int.le_refl _
 have h1:bXk (dBq ins) s.gains<=dB9 s:=dBx fun x hx=>by
  unfold dBq;have:=hd x hx;split <;> omega
 exact Nat.le_trans (gC (K:=18) (by decide) (by omega)) (by decide)
theorem dD9.grown{ins:List UInt8}{d wash:Int}{cause:List UInt8}{ls:List Bd}{gs:List aLe}{t:bWs}(E:dD9 ins d wash cause ls gs t):bXk (dBq ins) t.gains-bXk (dBq ins) gs=t.sum:=by
 have h:bXk (dBq ins) t.gains-bXk (dBq ins) gs=t.sum-0:=E.keep.keep.dfr;omega
end Go.Proofs.YtiloklnjjfaagaaGreatDoor
