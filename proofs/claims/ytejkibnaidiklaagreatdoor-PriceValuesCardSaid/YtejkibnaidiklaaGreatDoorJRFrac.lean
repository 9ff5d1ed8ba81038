/- RFrac RFrac2 -/
import Derived.Test.YtejkibnaidiklaaGreatDoorJMem
import Derived.Test.YtejkibnaidiklaaGreatDoorJRNum
import Derived.Test.YtejkibnaidiklaaGreatDoorJFrac
set_option maxHeartbeats 16000000
set_option maxRecDepth 100000
namespace Go.Proofs.YtejkibnaidiklaaGreatDoor
section
open Go Go.RowKit Num
theorem vN(l:List UInt8)(w:World)(hl:l.length≤1000):
  Calls Tryz.prog 161 #[.string ⟨l.toArray⟩] w fun e w'=>e=.returned (.bool (decide (val l=0)))∧w'=w:=by
 have H:=Hd (fun W=>iD l [] W (by omega) (by simp));rw[Nj] at H
 by_cases h:val l=0
 ·have e:bG (val l) 0=0:=by rw[h];rfl
  rw[e] at H;rw[decide_eq_true h];clear e h;go_enter Tryz.func161,Tryz.ntmps161;go_wp2_with fail;refine(H.out _).mono ?_;rintro e w1 ⟨rfl,rfl⟩;go_wp2;go_ret;exact⟨rfl,rfl⟩
 ·have e:(bG (val l) 0==0)=false:=by unfold bG;split <;> (try split) <;> simp <;> omega
  rw[decide_eq_false h];generalize bG (val l) 0=z at *;clear h;go_enter Tryz.func161,Tryz.ntmps161;go_wp2_with fail;refine(H.out _).mono ?_;rintro e w1 ⟨rfl,rfl⟩;go_wp2;go_ret;exact⟨rfl,rfl⟩
theorem Iz(w:World):Calls Tryz.prog 116 #[] w fun e w'=>e=.returned (.string ⟨([49]:List UInt8).toArray⟩)∧w'=w:=by
 have H:=Hd (fun W=>nS 1 (by decide) (by decide) W);rw[mK] at H;go_enter Tryz.func116,Tryz.ntmps116;go_wp2_with fail;refine(H.out _).mono ?_;rintro e w1 ⟨rfl,rfl⟩;go_wp2;go_ret;exact⟨rfl,rfl⟩
def gL(n d:List UInt8):List UInt8:=if val d<0 then aJ (-(val n)) else n
def gW(d:List UInt8):List UInt8:=if val d=0 then[49] else if val d<0 then aJ (-(val d)) else d
theorem Bb(n d:List UInt8)(w:World)(hn:n.length≤1000)(hd:d.length≤1000):
  Calls Tryz.prog 113 #[.agg #[.string ⟨n.toArray⟩,.string ⟨d.toArray⟩]] w fun e w'=>e=.returned (.tuple #[.string ⟨(gL n d).toArray⟩,.string ⟨(gW d).toArray⟩])∧Below w.heap.size w w':=by
 have HZ:=Hd (fun W=>vN d W hd);have HO:=Hd (fun W=>Iz W);have HB:=Hd (aB w (.cells #[.string ⟨n.toArray⟩,.string ⟨d.toArray⟩] 28))
 by_cases h0:val d=0
 ·have e1:gL n d=n:=by unfold gL;rw[if_neg (by omega)]
  have e2:gW d=[49]:=by unfold gW;rw[if_pos h0]
  rw[e1,e2];rw[decide_eq_true h0] at HZ;clear e1 e2 h0;go_enter Tryz.func113,Tryz.ntmps113;go_wp2_with fail;refine(HZ.out _).mono ?_;rintro e w1 ⟨rfl,rfl⟩;go_wp2_with fail;go_quiet (refine Calls.quiet_of_same (HO.out _));go_wp2;go_ret2;exact⟨rfl,aD HB.out _⟩
 ·have HC:=Hd (fun W=>iD d [] W (by omega) (by simp));rw[Nj] at HC;rw[decide_eq_false h0] at HZ
  by_cases h1:val d<0
  ·have e1:gL n d=aJ (-(val n)):=by unfold gL;rw[if_pos h1]
   have e2:gW d=aJ (-(val d)):=by unfold gW;rw[if_neg h0,if_pos h1]
   have e3:bG (val d) 0 = -1:=by unfold bG;rw[if_pos h1]
   have HNG:Hid (∀(z:List UInt8) W,z.length≤1000→Calls Tryz.prog 164 #[.string ⟨z.toArray⟩] W fun e w'=>e=.returned (.string ⟨(aJ (-(val z))).toArray⟩)∧w'=W):=fun z W hz=>(Wa z W (by omega)).mono (fun _ _ ⟨h,h'⟩=>⟨h,h'.symm⟩)
   rw[e1,e2];rw[e3] at HC;clear e1 e2 e3 h0 h1;go_enter Tryz.func113,Tryz.ntmps113;go_wp2_with fail;refine(HZ.out _).mono ?_;rintro e w1 ⟨rfl,rfl⟩;go_wp2_with fail;refine(HC.out _).mono ?_;rintro e w1 ⟨rfl,rfl⟩;go_wp2_with fail;go_quiet (refine Calls.quiet_of_same (HNG.out _ _ (by first|exact hn|exact hd)));go_wp2;go_ret2;exact⟨rfl,aD HB.out _⟩
  ·have e1:gL n d=n:=by unfold gL;rw[if_neg h1]
   have e2:gW d=d:=by unfold gW;rw[if_neg h0,if_neg h1]
   have e3:bG (val d) 0=1:=by unfold bG;rw[if_neg h1,if_pos (by omega)]
   rw[e1,e2];rw[e3] at HC;clear e1 e2 e3 h0 h1;go_enter Tryz.func113,Tryz.ntmps113;go_wp2_with fail;refine(HZ.out _).mono ?_;rintro e w1 ⟨rfl,rfl⟩;go_wp2_with fail;refine(HC.out _).mono ?_;rintro e w1 ⟨rfl,rfl⟩;go_wp2_with fail;go_quiet (fail);go_wp2;go_ret2;exact⟨rfl,aD HB.out _⟩
theorem Sx{N D:Int}(h:0<D):eT N D=N/(gE N D:Int):=by
 unfold eT;rw[if_neg (by omega),Int.fdiv_eq_ediv_of_nonneg _ (by omega)]
theorem yU{N D:Int}(h:0<D):fT N D=D/(gE N D:Int):=by
 unfold fT;rw[if_neg (by omega),Int.fdiv_eq_ediv_of_nonneg _ (by omega)]
theorem Cj(D:Int):eT 0 D=0:=by unfold eT;simp
theorem Px{D:Int}(h:0<D):fT 0 D=1:=by
 rw[yU h];have e:(gE 0 D:Int)=D:=by unfold gE;simp;omega
 rw[e];exact Int.ediv_self (by omega)
theorem Zg{z:Int}(h:z≠1):nD z=aJ z:=by
 unfold nD;rw[if_neg];intro e;rw[←mK] at e;exact h (Rn e)
theorem mP(n d:List UInt8):val (gL n d)=if val d<0 then -(val n) else val n:=by
 unfold gL;split
 ·rw[bE]
 ·rfl
theorem qD(d:List UInt8):val (gW d)=if lU d<0 then -(lU d) else lU d:=by
 unfold gW lU
 by_cases h:val d=0
 ·rw[if_pos h,if_pos h,if_neg (by omega)];exact jB
 ·rw[if_neg h,if_neg h];split
  ·rw[bE]
  ·rfl
theorem Tn(d:List UInt8):0<val (gW d):=by
 have:=qQ d;rw[qD];split <;> omega
theorem vW(n d:List UInt8):eT (val (gL n d)) (val (gW d))=eT (val n) (lU d)∧fT (val (gL n d)) (val (gW d))=fT (val n) (lU d):=by
 rw[mP,qD];have hd:val d<0↔lU d<0:=by unfold lU;split <;> omega
 by_cases h:lU d<0
 ·rw[if_pos (hd.2 h),if_pos h];unfold eT fT;rw[Hw,if_pos h,if_pos h,if_neg (by omega),if_neg (by omega)];exact⟨rfl,rfl⟩
 ·rw[if_neg (fun e=>h (hd.1 e)),if_neg h];exact⟨rfl,rfl⟩
theorem yW(n d:List UInt8):(val (gL n d)).natAbs=(val n).natAbs:=by rw[mP];split <;> simp
theorem yZ(d:List UInt8):(val (gW d)).natAbs=(lU d).natAbs:=by rw[qD];split <;> simp
theorem yV{n d:List UInt8}{K:Nat}(hK:1≤K)(h:n.length≤K):(gL n d).length≤K+1:=by
 unfold gL;split
 ·exact yH hK h
 ·omega
theorem yY{d:List UInt8}{K:Nat}(hK:1≤K)(h:d.length≤K):(gW d).length≤K+1:=by
 unfold gW;split
 ·simp
 ·split
  ·exact yH hK h
  ·omega
end
section
open Go Go.RowKit Num
theorem Ew{d:List UInt8}{K:Nat}(h:(val d).natAbs<K)(hK:1<K):(lU d).natAbs<K:=by unfold lU;split <;> omega
def nE(n d n' d':List UInt8):Int:=bG (val (gL n d)*val (gW d')) (val (gL n' d')*val (gW d))
end
end Go.Proofs.YtejkibnaidiklaaGreatDoor
