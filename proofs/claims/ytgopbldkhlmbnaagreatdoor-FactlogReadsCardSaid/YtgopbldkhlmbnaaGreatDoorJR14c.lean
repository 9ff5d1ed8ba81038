/- R14c Reads2 -/
import Derived.Test.YtgopbldkhlmbnaaGreatDoorJR14b
import Derived.Test.YtgopbldkhlmbnaaGreatDoorJRowF
import Derived.Test.YtgopbldkhlmbnaaGreatDoorJKeys
import Derived.Deep.RegionLaw
set_option maxHeartbeats 16000000
set_option maxRecDepth 100000
namespace Go.Proofs.YtgopbldkhlmbnaaGreatDoor
section
open Go Go.RowKit Num
theorem step_append_run {P:Program} {ops:Array Oper} {o:Oper} {a:Act} {w:World} {K:Act→World→Prop} {Q:Exit→Act→World→Prop} {E:Prop}
  (hg:o.guard=none) (s x:Operand) (t:TypeId) (hop:o.op=Op.call { callee:=Callee.builtin Builtin.append,args:=#[s,x],argTypes:=#[t,t] })
  (vs vx v:Value) (w':World) (hs:a.eval s=vs) (hx:a.eval x=vx) (hr:∀ ty,(Builtin.append_ #[t,t] ty #[vs,vx]).run P w = .ok v w') (hK:K (a.put o.dst v) w') :
  if Region.wanted o (yielded ops a.tmps)=true then Oper.wp P o a w K Q else E:=by
 have hw:Region.wanted o (yielded ops a.tmps)=true:=by simp [Region.wanted,hg]
 rw [if_pos hw]
 unfold Oper.wp
 simp [execOp,hop,resolve,invoke,builtin,hs,hx,hr,Result.andThen]
 exact hK
theorem lcheckK_ok {fs:List FactP} {known:Int} (h:lcheckK fs known=0):lcheck fs=0:=(lcheckK_zero h).1
theorem strsV_append (a b:List (List UInt8)):strsV (a ++ b)=strsV a ++ strsV b:=by simp [strsV]
theorem grow_strs (old new:List (List UInt8)) (b A:Addr) (c:Nat) (W:World) (h1:∀ j u,(strsV old)[j]? = some u→W.cell? (b.add j)=some u) (h2:∀ j u,(strsV new)[j]? = some u→W.cell? (A.add j)=some u) (hn:0 < new.length) (hl:old.length+new.length≤100000) :
  ∃ c2 W2,(∀ ty,(Builtin.append_ #[58,58] ty #[.slice (some b) old.length old.length,.slice (some A) new.length c]).run Tryz.prog W = .ok (.slice (some ⟨W.heap.size,0,none⟩) (old.length+new.length) c2) W2)∧Row W2 (some ⟨W.heap.size,0,none⟩) (strsV (old ++ new))∧Below W.heap.size W W2∧W.heap.size < W2.heap.size∧old.length+new.length≤c2∧c2≤maxLen:=by
 obtain ⟨i0,hi,hz0,hz1,hz2⟩:=info_parts infoString
 have hlo:=strsV_len old
 have hln:=strsV_len new
 refine ⟨_,_,fun ty=>run_append_grow (P:=Tryz.prog) W 58 ty 9 i0 _ Tryz.underlying58 hi hz0 b old.length old.length (strsV old) (by rw [hz1,hlo];omega) h1 A new.length c (strsV new) (by rw [hz1,hln];omega) h2 (by omega) (by omega) (by rw [hz2];exact growslice_fits (by omega) (by omega)),.inr ⟨W.heap.size,0,rfl,?_,fun k u hu => ?_⟩,below_drewN (below_alloc W _) 1,by simp,grownCap_ge _ _ _ _,grownCap_le_maxLen _ _ _ _ (by unfold maxLen;omega)⟩
 ·simp
 ·have hk:k < old.length+new.length:=by have:=(List.getElem?_eq_some_iff.1 hu).1;rw [strsV_append,List.length_append,hlo,hln] at this;exact this
  rw [Nat.zero_add]
  refine (cell_at (b:=W.heap.size) (heap_alloc_new W.drew _) k).trans ?_
  rw [← hu,strsV_append]
  rw [Array.getElem?_append_left (by simp [hlo,hln];omega)]
  simp
theorem own_one {W:World} {B:Nat} {s:List UInt8} (hB:W.heap[B]? = some (.cells #[.string ⟨s.toArray⟩] 9 (0,0))):∀ j u,(strsV [s])[j]? = some u→W.cell? ((⟨B,0,none⟩:Addr).add j)=some u:=by
 intro j u hu
 rw [addr_add,Nat.zero_add,cell_at hB j,← hu]
 simp [strsV]
theorem ins_inner (s:List UInt8) (tl:List (List UInt8)) (A:Option Addr) (cc B:Nat) (W:World) (hB:W.heap[B]? = some (.cells #[.string ⟨s.toArray⟩] 9 (0,0))) (hr:Row W A (strsV tl)) (hn:tl.length≤1000) :
  ∃ g c2 W2,(∀ ty,(Builtin.append_ #[58,58] ty #[.slice (some ⟨B,0,none⟩) 1 1,.slice A tl.length cc]).run Tryz.prog W = .ok (.slice (some ⟨g,0,none⟩) (1+tl.length) c2) W2)∧Row W2 (some ⟨g,0,none⟩) (strsV (s :: tl))∧Below W.heap.size W W2:=by
 obtain ⟨i0,hi,hz0,hz1,hz2⟩:=info_parts infoString
 by_cases h0:tl=[]
 ·subst h0
  refine ⟨B,1,W,fun ty=>run_append_none W 58 ty 9 i0 Tryz.underlying58 hi _ 1 1 (Nat.le_refl _) A cc,.inr ⟨B,0,rfl,(Array.getElem?_eq_some_iff.1 hB).1,fun k u hu => ?_⟩,Below.refl _ _⟩
  have:=own_one hB k u hu
  rwa [addr_add] at this
 ·obtain ⟨b,off,rfl,hlt,hc⟩:=hr.addr (by simpa [strsV] using h0)
  obtain ⟨c2,W2,h1,h2,h3,_⟩:=grow_strs [s] tl ⟨B,0,none⟩ ⟨b,off,none⟩ cc W (own_one hB) (fun j u hu=>by rw [addr_add];exact hc j u hu) (List.length_pos_iff.2 h0) (by simp;omega)
  exact ⟨W.heap.size,c2,W2,h1,h2,h3⟩
theorem Row.adds {w:World} {b off:Nat} {xs:List Value} (h:Row w (some ⟨b,off,none⟩) xs):∀ j u,xs[j]? = some u→w.cell? ((⟨b,off,none⟩:Addr).add j)=some u:=by
 intro j u hu
 rcases h with h | ⟨b',off',ea,_,hc⟩
 ·rw [h] at hu;simp at hu
 ·injection ea with ea
  injection ea with e1 e2
  subst e1 e2
  rw [addr_add]
  exact hc j u hu
theorem Row.tail {w:World} {g k cap:Nat} {ss:List (List UInt8)} (hr:Row w (some ⟨g,0,none⟩) (strsV ss)) (hg:g < w.heap.size) (hc:ss.length≤cap):Row w (if cap=k then some ⟨g,0,none⟩ else some ⟨g,k,none⟩) (strsV (ss.drop k)):=by
 by_cases h:cap=k
 ·rw [if_pos h,List.drop_eq_nil_of_le (by omega)]
  exact .inl rfl
 ·rw [if_neg h]
  refine .inr ⟨g,k,rfl,hg,fun j u hu => ?_⟩
  have h1:(strsV ss)[k+j]? = some u:=by rw [← hu];simp [strsV]
  have:=hr.adds _ u h1
  rwa [addr_add,Nat.zero_add] at this
theorem ins_two (ss:List (List UInt8)) (s:List UInt8) (g k cap:Nat) (A:Option Addr) (w:World) (hr:Row w (some ⟨g,0,none⟩) (strsV ss)) (hk:k≤ss.length) (hn:ss.length≤1000) (hA:Row w A (strsV (ss.drop k))) :
  ∃ g2 c2 W2 g3 c3 W3,(∀ ty,(Builtin.append_ #[58,58] ty #[.slice (some ⟨w.heap.size,0,none⟩) 1 1,.slice A (ss.length - k) (cap - k)]).run Tryz.prog (w.alloc (.cells #[.string ⟨s.toArray⟩] 9)).drew = .ok (.slice (some ⟨g2,0,none⟩) (1+(ss.length - k)) c2) W2) ∧
   (∀ ty,(Builtin.append_ #[58,58] ty #[.slice (some ⟨g,0,none⟩) k k,.slice (some ⟨g2,0,none⟩) (1+(ss.length - k)) c2]).run Tryz.prog W2 = .ok (.slice (some ⟨g3,0,none⟩) (k+(1+(ss.length - k))) c3) W3) ∧
   Row W3 (some ⟨g3,0,none⟩) (strsV (ss.take k ++ s :: ss.drop k))∧g3 < W3.heap.size∧k+(1+(ss.length - k))≤c3∧c3≤maxLen∧Below w.heap.size w W3:=by
 have hbW:Below w.heap.size w (w.alloc (.cells #[.string ⟨s.toArray⟩] 9)).drew:=below_drewN (below_alloc w _) 1
 obtain ⟨g2,c2,W2,h1,h2,h3⟩:=ins_inner s (ss.drop k) A (cap - k) w.heap.size (w.alloc (.cells #[.string ⟨s.toArray⟩] 9)).drew (heap_alloc_new w (.cells #[.string ⟨s.toArray⟩] 9)) (hA.below hbW) (by simp;omega)
 have hb2:=below_up hbW h3
 have hlt:(ss.take k).length=k:=by rw [List.length_take];omega
 have hld:(s :: ss.drop k).length=1+(ss.length - k):=by simp;omega
 obtain ⟨c3,W3,k1,k2,k3,k4,k5,k6⟩:=grow_strs (ss.take k) (s :: ss.drop k) ⟨g,0,none⟩ ⟨g2,0,none⟩ c2 W2 (fun j u hu=>by
  have hj:j < k:=by have:=(List.getElem?_eq_some_iff.1 hu).1;rw [strsV_len] at this;omega
  refine (hr.below hb2).adds j u ?_
  rw [← hu]
  simp [strsV,hj]) h2.adds (by simp) (by rw [hlt,hld];omega)
 rw [hlt,hld] at k1 k5
 rw [List.length_drop] at h1
 exact ⟨g2,c2,W2,W2.heap.size,c3,W3,h1,k1,k2,k4,k5,k6,below_up hb2 k3⟩
theorem ins_len {ss:List (List UInt8)} {s:List UInt8} {k:Nat} (hk:k≤ss.length):(ss.take k ++ s :: ss.drop k).length=k+(1+(ss.length - k)):=by simp;omega
theorem insert_any (ss:List (List UInt8)) (s:List UInt8) (g cap:Nat) (w:World) (hr:Row w (some ⟨g,0,none⟩) (strsV ss)) (hg:g < w.heap.size) (hc:ss.length≤cap) (hcm:cap≤maxLen) (hn:ss.length≤1000) :
  Calls Tryz.prog 63 #[.slice (some ⟨g,0,none⟩) ss.length cap,.string ⟨s.toArray⟩] w fun e w'=>(∃ g' cap',e = .returned (.slice (some ⟨g',0,none⟩) (insK ss s).length cap')∧Row w' (some ⟨g',0,none⟩) (strsV (insK ss s))∧g' < w'.heap.size∧(insK ss s).length≤cap'∧cap'≤maxLen)∧Below w.heap.size w w':=by
 have HR:=Lib.hid hr
 have hcell:∀ (j:Nat) x,ss[j]? = some x→w.cell? ⟨g,j,none⟩=some (.string ⟨x.toArray⟩):=fun j x hx=>by
  obtain ⟨b,off,ea,_,hcc⟩:=hr.addr (by intro h;rw [show ss=[] by simpa [strsV] using h] at hx;simp at hx)
  injection ea with ea
  injection ea with e1 e2
  subst e1 e2
  have:=hcc j (.string ⟨x.toArray⟩) (by unfold strsV;rw [List.getElem?_map,hx];rfl)
  rwa [Nat.zero_add] at this
 have HCL:=Lib.hid hcell
 have HM:=Lib.hid hcm
 clear hr hcell hcm
 go_enter Tryz.func63,Tryz.ntmps63
 go_wp2_with fail
 go_loop [5] (fun iv => ∃ k:Nat,k≤ss.length∧iv = .int .i64 k∧Hid (∀ (j:Nat) x,j < k→ss[j]? = some x→x < s)) (fun iv=>ss.length - (intOf iv).toNat)
 case atStart=>exact ⟨0,Nat.zero_le _,rfl,fun j x h=>absurd h (Nat.not_lt_zero j)⟩
 case round =>
  obtain ⟨k,hk,rfl,HS⟩:=hrel
  by_cases hlt:k < ss.length
  ·obtain ⟨x,hx⟩:∃ x,ss[k]? = some x:=⟨_,List.getElem?_eq_getElem hlt⟩
   have c0:=HCL.out k x hx
   have hbl:=bytesLess_eq x s
   by_cases hxs:x < s
   ·have HS2:Hid (∀ (j:Nat) y,j < k+1→ss[j]? = some y→y < s):=fun j y hj hy=>by
     rcases Nat.lt_or_ge j k with h | h
     ·exact HS.out j y h hy
     ·obtain rfl:j=k:=by omega
      rw [hx] at hy;injection hy with hy;rw [← hy];exact hxs
    rw [decide_eq_true hxs] at hbl
    clear HS hx
    go_wp2
    go_round
    case rel=>exact ⟨k+1,by omega,by go_num,HS2⟩
    case measure=>simp [intOf];omega
   ·have HAT:=Lib.hid (insK_at HS.out hk (fun y hy=>by rw [hx] at hy;injection hy with hy;rw [← hy];exact hxs))
    rw [decide_eq_false hxs] at hbl
    cases hq:(x == s) with
    | true =>
     have HEQ:Hid (insK ss s=ss):=by have h:=HAT.out;rw [if_pos (by rw [hx,show x=s by simpa using hq])] at h;exact h
     clear HAT HS
     go_wp2
     go_ret
     exact ⟨⟨g,cap,by rw [HEQ.out];rfl,by rw [HEQ.out];exact HR.out,hg,by rw [HEQ.out];exact hc,HM.out⟩,Below.refl _ _⟩
    | false =>
     have HEQ:Hid (insK ss s=ss.take k ++ s :: ss.drop k):=by have h:=HAT.out;rw [if_neg (by rw [hx];intro h;injection h with h;rw [h] at hq;simp at hq)] at h;exact h
     clear HAT HS
     obtain ⟨A,hA⟩:∃ A:Option Addr,(if cap=k then some ⟨g,0,none⟩ else some ⟨g,k,none⟩)=A:=⟨_,rfl⟩
     obtain ⟨g2,c2,W2,g3,c3,W3,h1,h2,h3,h4,h5,h6,h7⟩:=ins_two ss s g k cap A w HR.out hk hn (by rw [← hA];exact HR.out.tail hg hc)
     have H1:=Lib.hid h1
     have H2:=Lib.hid h2
     have H3:=Lib.hid (And.intro h3 (And.intro h4 (And.intro h5 (And.intro h6 h7))))
     have HLN:=Lib.hid (ins_len (s:=s) hk)
     clear h1 h2 h3 h4 h5 h6 h7
     have hkc:k≤cap:=by omega
     go_wp2_with fail
     go_region_law (first | (refine step_append_run rfl (.tmp 38) (.tmp 41) 58 rfl _ _ _ _ (by simp [Act.eval]) (by simp [Act.eval]) H1.out ?_) | (refine step_append_run rfl (.tmp 36) (.tmp 42) 58 rfl _ _ _ _ (by simp [Act.eval]) (by simp [Act.eval]) H2.out ?_))
     go_wp2
     go_ret
     exact ⟨⟨g3,c3,by rw [HEQ.out,HLN.out];rfl,by rw [HEQ.out];exact H3.out.1,H3.out.2.1,by rw [HEQ.out,HLN.out];exact H3.out.2.2.1,H3.out.2.2.2.1⟩,H3.out.2.2.2.2⟩
  ·obtain rfl:k=ss.length:=by omega
   have HEQ:Hid (insK ss s=ss.take ss.length ++ s :: ss.drop ss.length):=by have h:=insK_at HS.out hk (fun y hy=>by rw [List.getElem?_eq_none (Nat.le_refl _)] at hy;cases hy);rw [if_neg (by rw [List.getElem?_eq_none (Nat.le_refl _)];simp)] at h;exact h
   clear HS
   obtain ⟨A,hA⟩:∃ A:Option Addr,(if cap=ss.length then some ⟨g,0,none⟩ else some ⟨g,ss.length,none⟩)=A:=⟨_,rfl⟩
   obtain ⟨g2,c2,W2,g3,c3,W3,h1,h2,h3,h4,h5,h6,h7⟩:=ins_two ss s g ss.length cap A w HR.out hk hn (by rw [← hA];exact HR.out.tail hg hc)
   have H1:=Lib.hid h1
   have H2:=Lib.hid h2
   have H3:=Lib.hid (And.intro h3 (And.intro h4 (And.intro h5 (And.intro h6 h7))))
   have HLN:=Lib.hid (show (ss.take ss.length ++ s :: ss.drop ss.length).length=ss.length+1 by simp)
   clear h1 h2 h3 h4 h5 h6 h7
   have hkc:ss.length≤cap:=by omega
   go_wp2_with fail
   go_region_law (first | (refine step_append_run rfl (.tmp 38) (.tmp 41) 58 rfl _ _ _ _ (by simp [Act.eval]) (by simp [Act.eval]) H1.out ?_) | (refine step_append_run rfl (.tmp 36) (.tmp 42) 58 rfl _ _ _ _ (by simp [Act.eval]) (by simp [Act.eval]) H2.out ?_))
   go_wp2
   go_ret
   exact ⟨⟨g3,c3,by rw [HEQ.out,HLN.out];rfl,by rw [HEQ.out];exact H3.out.1,H3.out.2.1,by rw [HEQ.out,HLN.out];have:=H3.out.2.2.1;omega,H3.out.2.2.2.1⟩,H3.out.2.2.2.2⟩
theorem R14Keys_any (xs:List FactV) (a:Option Addr) (c k:Nat) (w:World) (hl:LogT w a c xs) (hk:k≤xs.length) (h0:lcheckK (xs.map FactV.f) k=0) :
  Calls Tryz.prog 33 #[.slice a xs.length c,.int .i64 (k:Int)] w fun e w'=>(∃ g cap,e = .returned (.tuple #[.slice (some ⟨g,0,none⟩) (keysV ((xs.map FactV.f).take k)).length cap,.int .i64 0])∧Row w' (some ⟨g,0,none⟩) (strsV (keysV ((xs.map FactV.f).take k))))∧Below w.heap.size w w':=by
 have HC:=Lib.hid (R14checkK_any xs a c k w hl)
 rw [h0] at HC
 have hlen:=hl.len
 have HLE:Hid (xs.length≤1000):=by
  have h:=(lcheck_zero (lcheckK_ok h0)).1
  rw [List.length_map] at h
  exact h
 have HK0:Hid (keysV ((xs.map FactV.f).take 0)=[]):=List.length_eq_zero_iff.1 (Nat.le_zero.1 (keys_len_le _))
 have HL:=Lib.hid hl.facts
 clear hl h0
 go_enter Tryz.func33,Tryz.ntmps33
 go_wp2_with fail
 refine HC.out.mono ?_
 rintro e w1 ⟨rfl,hb⟩
 have HB:=Lib.hid hb
 clear hb HC
 go_wp2_with fail
 have HB1:Hid (Below w.heap.size w (w1.alloc (.cells #[] 9))):=below_up HB.out (below_alloc _ _)
 go_loopw [7,8] (fun ov iv wr => ∃ j:Nat,j≤k∧iv = .int .i64 j∧∃ g cap:Nat,ov = .slice (some ⟨g,0,none⟩) (keysV ((xs.map FactV.f).take j)).length cap∧Hid (Row wr (some ⟨g,0,none⟩) (strsV (keysV ((xs.map FactV.f).take j)))∧g < wr.heap.size∧(keysV ((xs.map FactV.f).take j)).length≤cap∧cap≤maxLen)∧Hid (Below w.heap.size w wr)) (fun _ iv _=>k - (intOf iv).toNat)
 case atStart=>exact ⟨0,Nat.zero_le _,rfl,w1.heap.size,0,by rw [HK0.out];rfl,by show _∧_;rw [HK0.out];exact ⟨.inl rfl,by simp,Nat.le_refl _,Nat.zero_le _⟩,HB1⟩
 case round =>
  clear HB1 HB
  obtain ⟨j,hj,rfl,g,cap,rfl,HR,HB⟩:=hrel
  by_cases hlt:j < k
  ·obtain ⟨x,hx⟩:∃ x,xs[j]? = some x:=⟨xs[j]'(by omega),List.getElem?_eq_getElem _⟩
   obtain ⟨b,off,rfl,c0⟩:=HL.out.at HB.out hx
   have HK:Hid (keysV ((xs.map FactV.f).take (j+1))=insK (keysV ((xs.map FactV.f).take j)) x.f.key):=keys_step (by rw [List.getElem?_map,hx];rfl)
   have HN:Hid ((keysV ((xs.map FactV.f).take j)).length≤1000):=by
    have h:=keys_len_le ((xs.map FactV.f).take j)
    rw [List.length_take,List.length_map] at h
    have:=HLE.out
    show _≤_
    omega
   clear hx
   obtain ⟨ss',hs'⟩:∃ ss',ss'=keysV ((xs.map FactV.f).take (j+1)):=⟨_,rfl⟩
   rw [← hs'] at HK
   have HS':=Lib.hid hs'
   clear hs'
   generalize keysV ((xs.map FactV.f).take j)=ss at *
   generalize x.f.key=kx at *
   have HI:=Lib.hid (insert_any ss kx g cap wr HR.out.1 HR.out.2.1 HR.out.2.2.1 HR.out.2.2.2 HN.out)
   rw [← HK.out] at HI
   have hjl:j < xs.length:=by omega
   go_wp2_with fail
   refine HI.out.mono ?_
   rintro e w3 ⟨⟨g',cap',rfl,r1,r2,r3,r4⟩,hb⟩
   have HR3:Hid (Row w3 (some ⟨g',0,none⟩) (strsV ss')∧g' < w3.heap.size∧ss'.length≤cap'∧cap'≤maxLen):=⟨r1,r2,r3,r4⟩
   have HB3:=Lib.hid (below_up HB.out hb)
   clear r1 r2 r3 r4 hb HI HR
   go_wp2
   go_roundw
   case rel=>exact ⟨j+1,by omega,by go_num,g',cap',(by rw [← HS'.out]),(by rw [← HS'.out];exact HR3),HB3⟩
   case measure=>simp [intOf];omega
  ·obtain rfl:j=k:=by omega
   go_wp2
   go_ret2
   exact ⟨⟨g,cap,rfl,HR.out.1⟩,HB.out⟩
theorem R14Keys_bad (xs:List FactV) (a:Option Addr) (c:Nat) (known:Int) (w:World) (hl:LogT w a c xs) (h0:lcheckK (xs.map FactV.f) known ≠ 0) :
  Calls Tryz.prog 33 #[.slice a xs.length c,.int .i64 known] w fun e w'=>(∃ g,e = .returned (.tuple #[.slice g 0 0,.int .i64 (lcheckK (xs.map FactV.f) known)]))∧Below w.heap.size w w':=by
 have HC:=Lib.hid (R14checkK_any xs a c known w hl)
 clear hl
 generalize lcheckK (xs.map FactV.f) known=le at *
 have h0':(le == 0)=false:=by simpa using h0
 go_enter Tryz.func33,Tryz.ntmps33
 go_wp2_with fail
 refine HC.out.mono ?_
 rintro e w1 ⟨rfl,hb⟩
 go_wp2
 go_ret2
 exact ⟨⟨_,rfl⟩,below_up hb (below_alloc _ _)⟩
end
section
open Go Go.RowKit Num
theorem history_bad (xs:List FactV) (a:Option Addr) (c:Nat) (key:List UInt8) (w:World) (hE:Env w) (hl:LogAt w a c xs) (h0:lcheck (xs.map FactV.f) ≠ 0) :
  Calls Tryz.prog 22 #[.slice a xs.length c,.string ⟨key.toArray⟩] w fun e w'=>e = .returned (.tuple #[.slice none 0 0,.int .i64 1])∧Below w.heap.size w w':=by
 have HC:=checkK_any xs a c 0 w hE hl
 rw [show lcheckK (xs.map FactV.f) 0=1 from by unfold lcheckK;rw [if_pos h0]] at HC
 have HC:=Lib.hid HC
 clear hl h0
 go_enter Tryz.func22,Tryz.ntmps22
 go_wp2_with fail
 refine HC.out.mono ?_
 rintro e w1 ⟨rfl,hb⟩
 go_wp2
 go_ret2
 exact ⟨rfl,hb⟩
theorem latest_bad (xs:List FactV) (a:Option Addr) (c:Nat) (known:Int) (key:List UInt8) (w:World) (hE:Env w) (hl:LogAt w a c xs) (h0:lcheckK (xs.map FactV.f) known ≠ 0) :
  Calls Tryz.prog 28 #[.slice a xs.length c,.int .i64 known,.string ⟨key.toArray⟩] w fun e w'=>e = .returned (.tuple #[.int .i64 0,.bool false,.int .i64 (lcheckK (xs.map FactV.f) known)])∧Below w.heap.size w w':=by
 have HC:=Lib.hid (checkK_any xs a c known w hE hl)
 clear hl
 generalize lcheckK (xs.map FactV.f) known=le at *
 have h0':(le == 0)=false:=by simpa using h0
 go_enter Tryz.func28,Tryz.ntmps28
 go_wp2_with fail
 refine HC.out.mono ?_
 rintro e w1 ⟨rfl,hb⟩
 go_wp2
 go_ret3
 exact ⟨rfl,hb⟩
theorem keys_bad (xs:List FactV) (a:Option Addr) (c:Nat) (known:Int) (w:World) (hE:Env w) (hl:LogAt w a c xs) (h0:lcheckK (xs.map FactV.f) known ≠ 0) :
  Calls Tryz.prog 32 #[.slice a xs.length c,.int .i64 known] w fun e w'=>e = .returned (.tuple #[.slice none 0 0,.int .i64 (lcheckK (xs.map FactV.f) known)])∧Below w.heap.size w w':=by
 have HC:=Lib.hid (checkK_any xs a c known w hE hl)
 clear hl
 generalize lcheckK (xs.map FactV.f) known=le at *
 have h0':(le == 0)=false:=by simpa using h0
 go_enter Tryz.func32,Tryz.ntmps32
 go_wp2_with fail
 refine HC.out.mono ?_
 rintro e w1 ⟨rfl,hb⟩
 go_wp2
 go_ret2
 exact ⟨rfl,hb⟩
theorem replaced_bad (xs:List FactV) (a:Option Addr) (c:Nat) (known i:Int) (w:World) (hE:Env w) (hl:LogAt w a c xs) (h0:lcheckK (xs.map FactV.f) known ≠ 0) :
  Calls Tryz.prog 29 #[.slice a xs.length c,.int .i64 known,.int .i64 i] w fun e w'=>e = .returned (.tuple #[.int .i64 0,.bool false,.int .i64 (lcheckK (xs.map FactV.f) known)])∧Below w.heap.size w w':=by
 have HC:=Lib.hid (checkK_any xs a c known w hE hl)
 clear hl
 generalize lcheckK (xs.map FactV.f) known=le at *
 have h0':(le == 0)=false:=by simpa using h0
 go_enter Tryz.func29,Tryz.ntmps29
 go_wp2_with fail
 refine HC.out.mono ?_
 rintro e w1 ⟨rfl,hb⟩
 go_wp2
 go_ret3
 exact ⟨rfl,hb⟩
theorem replaced_out (xs:List FactV) (a:Option Addr) (c:Nat) (known i:Int) (w:World) (hE:Env w) (hl:LogAt w a c xs) (h0:lcheckK (xs.map FactV.f) known=0) (hi:i < 0∨known≤i) :
  Calls Tryz.prog 29 #[.slice a xs.length c,.int .i64 known,.int .i64 i] w fun e w'=>e = .returned (.tuple #[.int .i64 0,.bool false,.int .i64 2])∧Below w.heap.size w w':=by
 have HC:=checkK_any xs a c known w hE hl
 rw [h0] at HC
 have HC:=Lib.hid HC
 clear hl h0
 by_cases h1:i < 0
 ·clear hi
  go_enter Tryz.func29,Tryz.ntmps29
  go_wp2_with fail
  refine HC.out.mono ?_
  rintro e w1 ⟨rfl,hb⟩
  go_wp2
  go_ret3
  exact ⟨rfl,hb⟩
 ·have h2:known≤i:=by omega
  clear hi
  go_enter Tryz.func29,Tryz.ntmps29
  go_wp2_with fail
  refine HC.out.mono ?_
  rintro e w1 ⟨rfl,hb⟩
  go_wp2
  go_ret3
  exact ⟨rfl,hb⟩
theorem range_drop (k m:Nat):(List.range k).drop m=(List.range (k - m)).map (fun x=>m+x):=by
 apply List.ext_getElem
 ·simp
 ·intro i h1 h2
  simp
theorem fwd_drop {fs:List FactP} {key:List UInt8} {k m:Nat}:fwd fs key k m=(fwd ((fs.take k).drop m) key (k - m) 0).map (fun x=>m+x):=by
 unfold fwd
 rw [range_drop,List.filter_map,List.drop_zero]
 congr 1
 refine List.filter_congr fun j hj => ?_
 have hj:=List.mem_range.1 hj
 unfold keyAt
 simp only [Function.comp]
 rw [List.getElem?_drop,List.getElem?_take_of_lt (by omega)]
theorem repl_same (xs:List FactV) (key:List UInt8) (k i:Nat) (hk:k≤xs.length):replacedV i (fwd ((behind xs k i).map FactV.f) key (behind xs k i).length 0)=replE (xs.map FactV.f) key k (i+1):=by
 have e:(behind xs k i).map FactV.f=((xs.map FactV.f).take k).drop (i+1):=by unfold behind;rw [List.map_drop,List.map_take]
 have el:(behind xs k i).length=k - (i+1):=by unfold behind;rw [List.length_drop,List.length_take];omega
 unfold replE
 rw [e,el,fwd_drop (fs:=xs.map FactV.f) (m:=i+1)]
 cases fwd (((xs.map FactV.f).take k).drop (i+1)) key (k - (i+1)) 0 with
 | nil=>rfl
 | cons x r =>
  show Value.tuple #[_,_,_]=Value.tuple #[_,_,_]
  congr 3
theorem latest_same (fs:List FactP) (key:List UInt8) (k:Nat):latestV (fs.take k) key k=latestV fs key k:=by
 unfold latestV
 rw [bwd_take (Nat.le_refl _)]
def Three (v:Value):Prop:=∃ (i:Int) (b:Bool) (e:Int),v = .tuple #[.int .i64 i,.bool b,.int .i64 e]
theorem latest_three (fs:List FactP) (key:List UInt8) (k:Nat):Three (latestV fs key k):=by
 unfold latestV
 cases bwd fs key k with
 | nil=>exact ⟨_,_,_,rfl⟩
 | cons x r=>exact ⟨_,_,_,rfl⟩
theorem repl_three (fs:List FactP) (key:List UInt8) (k i:Nat):Three (replE fs key k i):=by
 unfold replE
 cases fwd fs key k i with
 | nil=>exact ⟨_,_,_,rfl⟩
 | cons x r=>exact ⟨_,_,_,rfl⟩
theorem latest_both (xs:List FactV) (a:Option Addr) (c:Nat) (known:Int) (key:List UInt8) (w:World) (hE:Env w) (hl:LogAt w a c xs) (ht:LogT w a c xs) :
  ∃ v,Three v∧∀ W,Below w.heap.size w W→Calls Tryz.prog 28 #[.slice a xs.length c,.int .i64 known,.string ⟨key.toArray⟩] W (fun e w'=>e = .returned v∧Below W.heap.size W w') ∧
   Calls Tryz.prog 31 #[.slice a xs.length c,.int .i64 known,.string ⟨key.toArray⟩] W (fun e w'=>e = .returned v∧Below W.heap.size W w'):=by
 by_cases h0:lcheckK (xs.map FactV.f) known=0
 ·obtain ⟨h1,h2,h3⟩:=lcheckK_zero h0
  rw [List.length_map] at h3
  obtain ⟨k,rfl⟩:=Int.eq_ofNat_of_zero_le h2
  have hk:k≤xs.length:=by omega
  refine ⟨_,latest_three (xs.map FactV.f) key k,fun W hb=>⟨?_,R14Latest_any xs a c k key W (ht.below hb) hk h0⟩⟩
  have h:=latest_any xs a c key k hk W (hE.below hb) (hl.below hb) h1
  rw [List.map_take,latest_same] at h
  exact h
 ·exact ⟨_,⟨_,_,_,rfl⟩,fun W hb=>⟨latest_bad xs a c known key W (hE.below hb) (hl.below hb) h0,R14Latest_bad xs a c known key W (ht.below hb) h0⟩⟩
theorem replaced_both (xs:List FactV) (a:Option Addr) (c:Nat) (known i:Int) (w:World) (hE:Env w) (hl:LogAt w a c xs) (ht:LogT w a c xs) :
  ∃ v,Three v∧∀ W,Below w.heap.size w W→Calls Tryz.prog 29 #[.slice a xs.length c,.int .i64 known,.int .i64 i] W (fun e w'=>e = .returned v∧Below W.heap.size W w') ∧
   Calls Tryz.prog 34 #[.slice a xs.length c,.int .i64 known,.int .i64 i] W (fun e w'=>e = .returned v∧Below W.heap.size W w'):=by
 by_cases h0:lcheckK (xs.map FactV.f) known=0
 ·by_cases hi:i < 0∨known≤i
  ·exact ⟨_,⟨_,_,_,rfl⟩,fun W hb=>⟨replaced_out xs a c known i W (hE.below hb) (hl.below hb) h0 hi,R14Replaced_out xs a c known i W (ht.below hb) h0 hi⟩⟩
  ·obtain ⟨h1,h2,h3⟩:=lcheckK_zero h0
   rw [List.length_map] at h3
   obtain ⟨k,rfl⟩:=Int.eq_ofNat_of_zero_le h2
   obtain ⟨j,rfl⟩:=Int.eq_ofNat_of_zero_le (show 0≤i by omega)
   have hk:k≤xs.length:=by omega
   have hj:j < k:=by omega
   obtain ⟨y,hy⟩:∃ y,xs[j]? = some y:=⟨xs[j]'(by omega),List.getElem?_eq_getElem _⟩
   refine ⟨_,repl_three (xs.map FactV.f) y.f.key k (j+1),fun W hb=>⟨?_,R14Replaced_any xs a c k j y W (ht.below hb) hk hj hy h0⟩⟩
   have h:=replaced_any xs a c k j y hk hj hy W (hE.below hb) (hl.below hb) h1
   rw [repl_same xs y.f.key k j hk] at h
   exact h
 ·exact ⟨_,⟨_,_,_,rfl⟩,fun W hb=>⟨replaced_bad xs a c known i W (hE.below hb) (hl.below hb) h0,R14Replaced_bad xs a c known i W (ht.below hb) h0⟩⟩
theorem keys_both (xs:List FactV) (a:Option Addr) (c:Nat) (known:Int) (w:World) (hE:Env w) (hl:LogAt w a c xs) (ht:LogT w a c xs) :
  ∃ (ss:List (List UInt8)) (er:Int),ss.length≤1000000∧∀ W,Below w.heap.size w W→Calls Tryz.prog 32 #[.slice a xs.length c,.int .i64 known] W (fun e w'=>(∃ a1 c1,e = .returned (.tuple #[.slice a1 ss.length c1,.int .i64 er])∧Row w' a1 (strsV ss))∧Below W.heap.size W w') ∧
   Calls Tryz.prog 33 #[.slice a xs.length c,.int .i64 known] W (fun e w'=>(∃ a1 c1,e = .returned (.tuple #[.slice a1 ss.length c1,.int .i64 er])∧Row w' a1 (strsV ss))∧Below W.heap.size W w'):=by
 by_cases h0:lcheckK (xs.map FactV.f) known=0
 ·obtain ⟨h1,h2,h3⟩:=lcheckK_zero h0
  rw [List.length_map] at h3
  obtain ⟨k,rfl⟩:=Int.eq_ofNat_of_zero_le h2
  have hk:k≤xs.length:=by omega
  refine ⟨keysV ((xs.map FactV.f).take k),0,?_,fun W hb=>⟨?_,?_⟩⟩
  ·have h:=keys_len_le ((xs.map FactV.f).take k)
   rw [List.length_take,List.length_map] at h
   have:=hl.len
   omega
  ·have h:=keys_any xs a c k hk W (hE.below hb) (hl.below hb) h1
   rw [List.map_take] at h
   refine h.mono ?_
   rintro e w' ⟨v,rfl,ho,hb⟩
   obtain ⟨a1,c1,rfl,hr,_⟩:=owned_row ho
   exact ⟨⟨a1,c1,rfl,hr⟩,hb⟩
  ·refine (R14Keys_any xs a c k W (ht.below hb) hk h0).mono ?_
   rintro e w' ⟨⟨g,cap,rfl,hr⟩,hb⟩
   exact ⟨⟨_,_,rfl,hr⟩,hb⟩
 ·refine ⟨[],lcheckK (xs.map FactV.f) known,Nat.zero_le _,fun W hb=>⟨?_,?_⟩⟩
  ·refine (keys_bad xs a c known W (hE.below hb) (hl.below hb) h0).mono ?_
   rintro e w' ⟨rfl,hb⟩
   exact ⟨⟨_,_,rfl,.inl rfl⟩,hb⟩
  ·refine (R14Keys_bad xs a c known W (ht.below hb) h0).mono ?_
   rintro e w' ⟨⟨g,rfl⟩,hb⟩
   exact ⟨⟨_,_,rfl,.inl rfl⟩,hb⟩
theorem ints_of_row {w:World} {a:Option Addr} {s:List Nat} (h:Row w a (s.map natV)):Ints w a (s.map fun k:Nat=>(k:Int)):=by
 rcases h with h | ⟨b,off,ha,hl,hc⟩
 ·exact .inl (by simpa using h)
 ·refine .inr ⟨b,off,ha,hl,fun k z hz => ?_⟩
  rw [List.getElem?_map] at hz
  obtain ⟨x,hx,rfl⟩:=Option.map_eq_some_iff.1 hz
  exact hc k _ (by rw [List.getElem?_map,hx];rfl)
theorem history_both (xs:List FactV) (a:Option Addr) (c:Nat) (key:List UInt8) (w:World) (hE:Env w) (hl:LogAt w a c xs) (ht:LogT w a c xs) :
  ∃ (zs:List Int) (er:Int),zs.length≤1000000∧∀ W,Below w.heap.size w W→Calls Tryz.prog 22 #[.slice a xs.length c,.string ⟨key.toArray⟩] W (fun e w'=>(∃ a1 c1,e = .returned (.tuple #[.slice a1 zs.length c1,.int .i64 er])∧Ints w' a1 zs)∧Below W.heap.size W w') ∧
   Calls Tryz.prog 30 #[.slice a xs.length c,.string ⟨key.toArray⟩] W (fun e w'=>(∃ a1 c1,e = .returned (.tuple #[.slice a1 zs.length c1,.int .i64 er])∧Ints w' a1 zs)∧Below W.heap.size W w'):=by
 by_cases h0:lcheck (xs.map FactV.f)=0
 ·refine ⟨(fwd (xs.map FactV.f) key xs.length 0).map fun k:Nat=>(k:Int),0,?_,fun W hb=>⟨?_,?_⟩⟩
  ·rw [List.length_map,fwd_zero]
   exact Nat.le_trans (List.length_filter_le _ _) (by simp;exact hl.len)
  ·refine (history_any xs a c key W (hE.below hb) (hl.below hb) h0).mono ?_
   rintro e w' ⟨v,rfl,ho,hb⟩
   obtain ⟨a1,c1,rfl,hr,_⟩:=owned_row ho
   exact ⟨⟨a1,c1,by rw [List.length_map],ints_of_row hr⟩,hb⟩
  ·refine (R14History_any xs a c key W (ht.below hb) h0).mono ?_
   rintro e w' ⟨v,rfl,ho,hb⟩
   obtain ⟨a1,c1,rfl,hr,_⟩:=owned_row ho
   exact ⟨⟨a1,c1,by rw [List.length_map],ints_of_row hr⟩,hb⟩
 ·refine ⟨[],1,Nat.zero_le _,fun W hb=>⟨?_,?_⟩⟩
  ·refine (history_bad xs a c key W (hE.below hb) (hl.below hb) h0).mono ?_
   rintro e w' ⟨rfl,hb⟩
   exact ⟨⟨_,_,rfl,.inl rfl⟩,hb⟩
  ·refine (R14History_bad xs a c key W (ht.below hb) h0).mono ?_
   rintro e w' ⟨v,rfl,ho,hb⟩
   obtain ⟨a1,c1,rfl,hr,_⟩:=owned_row ho
   exact ⟨⟨a1,c1,rfl,.inl rfl⟩,hb⟩
theorem ints_getD {w:World} {a:Option Addr} {zs:List Int} (h:Ints w a zs):zs=[]∨∃ b off,a=some ⟨b,off,none⟩∧∀ j,j < zs.length→w.cell? ⟨b,off+j,none⟩=some (.int .i64 (zs.getD j 0)):=by
 rcases h with h | ⟨b,off,ha,_,hc⟩
 ·exact .inl h
 ·exact .inr ⟨b,off,ha,fun j hj=>hc j _ (by rw [List.getD_eq_getElem?_getD,List.getElem?_eq_getElem hj];rfl)⟩
theorem equalInt_same (zs:List Int) (a a2:Option Addr) (c c2:Nat) (w:World) (hn:zs.length≤1000000) (h:Ints w a zs) (h2:Ints w a2 zs) :
  Calls Tryz.prog 35 #[.slice a zs.length c,.slice a2 zs.length c2] w fun e w'=>e = .returned (.bool true)∧Below w.heap.size w w':=by
 rcases ints_getD h with rfl | ⟨b,off,rfl,hc⟩
 ·refine (Tryz.slices_Equal_int_empty a a2 c 0 c2 w (by omega)).mono ?_
  rintro e w' ⟨rfl,rfl⟩
  exact ⟨rfl,Below.refl _ _⟩
 ·rcases ints_getD h2 with rfl | ⟨b2,off2,rfl,hc2⟩
  ·refine (Tryz.slices_Equal_int_empty _ a2 c 0 c2 w (by omega)).mono ?_
   rintro e w' ⟨rfl,rfl⟩
   exact ⟨rfl,Below.refl _ _⟩
  ·refine (Tryz.slices_Equal_int b off zs.length c b2 off2 zs.length c2 zs zs w (Nat.le_refl _) (Nat.le_refl _) (by omega) (by omega) hc hc2).mono ?_
   rintro e w' ⟨rfl,q,rfl⟩
   exact ⟨by simp,below_drewN (Below.refl _ _) q⟩
end
end Go.Proofs.YtgopbldkhlmbnaaGreatDoor
