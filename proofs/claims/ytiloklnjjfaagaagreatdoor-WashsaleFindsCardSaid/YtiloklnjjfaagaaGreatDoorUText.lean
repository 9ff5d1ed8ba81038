/- Region Digits Builder Read Text -/
import Derived.Test.YtiloklnjjfaagaaGreatDoorUPlus
import Derived.Test.YtiloklnjjfaagaaGreatDoorUNames
import Derived.Deep.RegionHeld3
import Derived.Shelf.Strings.SlTrimAscii
set_option maxHeartbeats 16000000
set_option maxRecDepth 100000
namespace Go.Proofs.YtiloklnjjfaagaaGreatDoor
open Tryz
section
open Go
section
variable {P:Program}{ops:Array Oper}{Q:Exit->Act->World->Prop}{md:Region.Mode}{S:World->Prop}
theorem No{i:Nat}{oi:Oper}(d:Option Tmp){v:Value}{fuel:Nat}{listed:Array Bool}{a:Act}{w:World}(hi:ops[i]?=some oi)(hd:oi.dst=d)
  (hs:Region.noSelect ops=true) (hf:Region.free md ops listed i=true) (hr:(Region.ready md ops listed).contains i=true)
  (hQ:∀c a w,Q (.panic c) (a.put d v) w->Q (.panic c) a w) (hy:YieldsIf P ops S oi v a) (hS:S w)
  (h:wpAnyH P md ops Q S fuel (listed.setIfInBounds i true) (a.put d v) w):wpAnyH P md ops Q S (fuel+1) listed a w:=by
 subst hd;exact wpAnyH_take hi hs hf hr hQ hy hS h
theorem tk(i:Nat)(d:Option Tmp)(v:Value){oi:Oper}{fuel:Nat}{listed:Array Bool}{a:Act}{w:World}(hi:ops[i]?=some oi)(hd:oi.dst=d)(hy:∀w,S w->(execOp a.eval oi).run P w=.ok (.value v) w)
  (h:wpAnyH P md ops Q S fuel (listed.setIfInBounds i true) (a.put d v) w) (hw:Region.wanted oi (yielded ops a.tmps)=true:=by rfl) (hs:Region.noSelect ops=true:=by kernel_rfl) (hf:Region.free md ops listed i=true:=by kernel_rfl)
  (hr:(Region.ready md ops listed).contains i=true:=by kernel_rfl) (hQ:∀c a w,Q (.panic c) (a.put d v) w->Q (.panic c) a w:=by exact fun _ _ _ h=>h) (hS:S w:=by assumption):wpAnyH P md ops Q S (fuel+1) listed a w :=
 No d hi hd hs hf hr hQ (.inl ⟨hw,hy⟩) hS h
theorem In(i:Nat)(d:Option Tmp){v:Value}{oi:Oper}{fuel:Nat}{listed:Array Bool}{a:Act}{w:World}(hi:ops[i]?=some oi)(hd:oi.dst=d)
  (h:wpAnyH P md ops Q S fuel (listed.setIfInBounds i true) (a.put d v) w) (hy:∀w,S w->(execOp a.eval oi).run P w=.ok (.value v) w:=by intro w hSw;(try dsimp only at hSw);go_simp;try rfl) (hw:Region.wanted oi (yielded ops a.tmps)=true:=by rfl) (hs:Region.noSelect ops=true:=by kernel_rfl) (hf:Region.free md ops listed i=true:=by kernel_rfl)
  (hr:(Region.ready md ops listed).contains i=true:=by kernel_rfl) (hQ:∀c a w,Q (.panic c) (a.put d v) w->Q (.panic c) a w:=by exact fun _ _ _ h=>h) (hS:S w:=by assumption):wpAnyH P md ops Q S (fuel+1) listed a w :=
 No d hi hd hs hf hr hQ (.inl ⟨hw,hy⟩) hS h
theorem rd1(i:Nat){o:Oper}{fuel:Nat}{listed:Array Bool}{a:Act}{w:World}(ho:ops[i]?=some o)
  (h:∀K':Act->World->Prop,Shut (∀a w,S w->(S w->wpAnyH P md ops Q S fuel (listed.setIfInBounds i true) a w)->K' a w)->Oper.wp P o a w K' Q)
  (hr:Region.ready md ops listed=[i]:=by kernel_rfl) (hw:Region.wanted o (yielded ops a.tmps)=true:=by rfl):wpAnyH P md ops Q S (fuel+1) listed a w :=
 wpAnyH_ready hr (by simp) (AllReadyH.cons ho (fun K hK=>by rw[if_pos hw];exact h K hK) AllReadyH.nil)
theorem tu(i:Nat)(d:Option Tmp){oi:Oper}{fuel:Nat}{listed:Array Bool}{a:Act}{w:World}(hi:ops[i]?=some oi)(hd:oi.dst=d)
  (h:wpAnyH P md ops Q S fuel (listed.setIfInBounds i true) (a.put d undef) w) (hw:Region.wanted oi (yielded ops a.tmps)=false:=by rfl) (hs:Region.noSelect ops=true:=by kernel_rfl) (hf:Region.free md ops listed i=true:=by kernel_rfl)
  (hr:(Region.ready md ops listed).contains i=true:=by kernel_rfl) (hQ:∀c a w,Q (.panic c) (a.put d undef) w->Q (.panic c) a w:=by exact fun _ _ _ h=>h) (hS:S w:=by assumption):wpAnyH P md ops Q S (fuel+1) listed a w :=
 No d hi hd hs hf hr hQ (.inr ⟨hw,rfl⟩) hS h
theorem pS:(∀(a:Act) (v:Value),a.put none v=a)/\(∀(a:Act) (d:Tmp) (v:Value),a.put (some d) v = { a with tmps:=a.tmps.setIfInBounds d v })/\(∀(l:List Value) (i:Nat) (v:Value),l.toArray.setIfInBounds i v=(l.set i v).toArray) /\
  (∀(x v:Value) (l:List Value),(x::l).set 0 v=v::l)/\(∀(x v:Value) (l:List Value) (n:Nat),(x::l).set (n+1) v=x::l.set n v) :=
 ⟨fun _ _=>rfl,fun _ _ _=>rfl,fun _ _ _=>by simp,fun _ _ _=>rfl,fun _ _ _ _=>rfl⟩
end
end
section
open Go.RowKit Num
theorem zP(c:UInt8):([48,49,50,51,52,53,54,55,56,57]:List UInt8).contains c=bF c:=by
 rw[Bool.eq_iff_iff,dO];simp only[List.contains_iff_mem,List.mem_cons,List.not_mem_nil,or_false];constructor
 ·rintro(rfl|rfl|rfl|rfl|rfl|rfl|rfl|rfl|rfl|rfl) <;> decide
 ·intro h;have h2:c.toNat=48∨c.toNat=49∨c.toNat=50∨c.toNat=51∨c.toNat=52∨c.toNat=53∨c.toNat=54∨c.toNat=55∨c.toNat=56∨c.toNat=57:=by omega
  rcases h2 with h|h|h|h|h|h|h|h|h|h
  ·exact .inl (UInt8.toNat_inj.1 h)
  ·exact .inr (.inl (UInt8.toNat_inj.1 h))
  ·exact .inr (.inr (.inl (UInt8.toNat_inj.1 h)))
  ·exact .inr (.inr (.inr (.inl (UInt8.toNat_inj.1 h))))
  ·exact .inr (.inr (.inr (.inr (.inl (UInt8.toNat_inj.1 h)))))
  ·exact .inr (.inr (.inr (.inr (.inr (.inl (UInt8.toNat_inj.1 h))))))
  ·exact .inr (.inr (.inr (.inr (.inr (.inr (.inl (UInt8.toNat_inj.1 h)))))))
  ·exact .inr (.inr (.inr (.inr (.inr (.inr (.inr (.inl (UInt8.toNat_inj.1 h))))))))
  ·exact .inr (.inr (.inr (.inr (.inr (.inr (.inr (.inr (.inl (UInt8.toNat_inj.1 h)))))))))
  ·exact .inr (.inr (.inr (.inr (.inr (.inr (.inr (.inr (.inr (UInt8.toNat_inj.1 h)))))))))
theorem jM(p:UInt8->Bool)(l:List UInt8):l.dropWhile p=[]↔l.all p=true:=by
 induction l with
 |nil=>simp
 |cons c r ih =>
  rw[List.dropWhile_cons]
  by_cases h:p c=true
  ·rw[if_pos h,ih];simp[h]
  ·rw[if_neg h];simp[h]
theorem rO(l cs:List UInt8):Lib.trimS l cs=[]↔l.all (cs.contains ·)=true:=by
 unfold Lib.trimS Lib.trimLeftS Lib.trimRightS;rw[jM,List.all_reverse];constructor
 ·intro h;have h2:(l.reverse.dropWhile (cs.contains ·))=[]:=by
   cases hd:l.reverse.dropWhile (cs.contains ·) with
   |nil=>rfl
   |cons c r =>
    rw[hd] at h;have hc:cs.contains c=true:=by simp at h ⊢;exact h.1
    have:=List.head?_dropWhile_not (cs.contains ·) l.reverse;rw[hd] at this;simp at this hc;exact absurd hc this
  rw[jM,List.all_reverse] at h2;exact h2
 ·intro h;have h2:l.reverse.dropWhile (cs.contains ·)=[]:=by rw[jM,List.all_reverse];exact h
  rw[h2];rfl
theorem Di(l:List UInt8):Lib.trimS l [48,49,50,51,52,53,54,55,56,57]=[]↔l.all bF=true:=by
 rw[rO];have:(fun c=>([48,49,50,51,52,53,54,55,56,57]:List UInt8).contains c)=bF:=funext zP;rw[this]
theorem Ot(l:List UInt8):Lib.trimPrefix l [45]=body l:=by
 unfold Lib.trimPrefix body Lib.hasPrefix;cases l with
 |nil=>rfl
 |cons c r =>
  by_cases h:c=45
  ·subst h;simp
  ·simp[h,Ne.symm h]
theorem Uc(l:List UInt8):Lib.hasPrefix l [45]=jS l:=by
 unfold jS Lib.hasPrefix;cases l with
 |nil=>rfl
 |cons c r =>
  by_cases h:c=45
  ·subst h;simp
  ·simp[h,List.isPrefixOf];exact fun e=>absurd e.symm h
theorem uG(l:List UInt8):(body l).length<=l.length:=by unfold body;split <;> simp
theorem nN(l:List UInt8):(aZ l).length<=l.length:=by
 unfold aZ;split
 ·exact Nat.le_trans (List.dropWhile_sublist _).length_le (uG l)
 ·simp
attribute [local go_sem] eW
theorem Vj(l:List UInt8)(w:World):
  Calls prog 154 #[.string ⟨l.toArray⟩,.string ⟨#[45]⟩] w fun e w'=>e=.returned (.tuple #[.string ⟨(body l).toArray⟩,.bool (jS l)])/\w=w' :=
 (strings_CutPrefix ⟨l.toArray⟩ ⟨#[45]⟩ w).mono fun e w' ⟨he,hw⟩=>⟨by rw[he,<-Ot,<-Uc],hw.symm⟩
theorem Jr(l:List UInt8)(w:World)(hl:l.length<=9000000000000000000):
  Calls prog 155 #[.string ⟨l.toArray⟩,.string ⟨#[48,49,50,51,52,53,54,55,56,57]⟩] w fun e w'=>e=.returned (.string ⟨(Lib.trimS l [48,49,50,51,52,53,54,55,56,57]).toArray⟩)/\Below w.heap.size w w' :=
 (Any.strings_Trim_laid lays160 (by kernel_rfl) ⟨l.toArray⟩ ⟨#[48,49,50,51,52,53,54,55,56,57]⟩ w (by rw[aV];omega) (by decide) (ascii_of_all (by decide))).mono fun e w' ⟨he,hw⟩=>⟨by rw[he],hw⟩
theorem bNf(l:List UInt8)(w:World):
  Calls prog 156 #[.string ⟨l.toArray⟩,.string ⟨#[48]⟩] w fun e w'=>e=.returned (.string ⟨(l.dropWhile (· == 48)).toArray⟩)/\w=w' :=
 (strings_TrimLeft_one ⟨l.toArray⟩ 48 (by decide) w).mono fun e w' ⟨he,hw⟩=>⟨by rw[he];rfl,hw.symm⟩
theorem Lw(l:List UInt8)(w:World)(hl:l.length<=9000000000000000000):
  Calls prog 109 #[.string ⟨l.toArray⟩] w fun e w'=>e=.returned (.tuple #[.string ⟨(aZ l).toArray⟩,.bool (dD l)])/\Below w.heap.size w w':=by
 have H1:=Hd (fun W=>Vj l W);have H2:=Hd (fun W=>Jr (body l) W (by have:=uG l;omega));have H3:=Hd (fun W=>bNf (body l) W);have hd:=Hd (show aZ l=if(body l).all bF=true then(body l).dropWhile (· == 48) else[] from rfl);have hng:=Hd (show dD l=(jS l && !(aZ l).isEmpty) from rfl);have ht:=Di (body l);generalize Lib.trimS (body l) [48,49,50,51,52,53,54,55,56,57]=t at *;generalize(body l).dropWhile (· == 48)=t2 at *;generalize body l=bl at *;generalize jS l=mi at *
 by_cases hall:bl.all bF=true
 ·obtain rfl:=ht.2 hall;have e1:aZ l=t2:=by rw[hd.out,if_pos hall]
  rw[e1] at hng ⊢;clear ht hall hd e1
  by_cases hmi:mi=true
  ·subst hmi;go_enter func109,ntmps109;go_wp2_with (first|(go_at_call 154;refine(H1.out _).mono ?_;rintro e w1 ⟨rfl,rfl⟩)|(go_at_call 155;refine(H2.out _).mono ?_;rintro e w2 ⟨rfl,hb2⟩)|(go_at_call 156;refine(H3.out _).mono ?_;rintro e w3 ⟨rfl,rfl⟩));go_ret2;exact⟨by rw[hng.out];simp,hb2⟩
  ·have hmi:mi=false:=by simpa using hmi
   subst hmi;go_enter func109,ntmps109;go_wp2_with (first|(go_at_call 154;refine(H1.out _).mono ?_;rintro e w1 ⟨rfl,rfl⟩)|(go_at_call 155;refine(H2.out _).mono ?_;rintro e w2 ⟨rfl,hb2⟩)|(go_at_call 156;refine(H3.out _).mono ?_;rintro e w3 ⟨rfl,rfl⟩));go_ret2;exact⟨by rw[hng.out];simp,hb2⟩
 ·have e1:aZ l=[]:=by rw[hd.out,if_neg hall]
  have e2:t ≠ []:=fun h=>hall (ht.1 h)
  have e3:t.isEmpty=false:=by simpa using e2
  rw[e1] at hng ⊢;have hn:dD l=false:=by rw[hng.out];simp
  rw[hn];clear hall ht hd hng e1 e2 hn;go_enter func109,ntmps109;go_wp2_with (first|(go_at_call 154;refine(H1.out _).mono ?_;rintro e w1 ⟨rfl,rfl⟩)|(go_at_call 155;refine(H2.out _).mono ?_;rintro e w2 ⟨rfl,hb2⟩)|(go_at_call 156;refine(H3.out _).mono ?_;rintro e w3 ⟨rfl,rfl⟩));go_ret2;exact⟨rfl,hb2⟩
theorem aNa(l:List UInt8)(w:World)(hl:l.length<=9000000000000000000):
  Calls prog 123 #[.string ⟨l.toArray⟩] w fun e w'=>e=.returned (.string ⟨(aJ (val l)).toArray⟩)/\Below w.heap.size w w':=by
 have H:=Hd (fun W=>Lw l W hl);have hc:=Hd (Rm l);have hdl:=nN l;generalize aZ l=d at *
 by_cases hn:dD l=true
 ·rw[hn] at H hc;clear hn;go_enter func123,ntmps123;go_wp2_with (go_at_call 109;refine(H.out _).mono ?_;rintro e w2 ⟨rfl,hb2⟩);go_ret;exact⟨by rw[hc.out];simp,hb2⟩
 ·have hn':dD l=false:=by simpa using hn
  rw[hn'] at H hc;clear hn hn';go_enter func123,ntmps123;go_wp2_with (go_at_call 109;refine(H.out _).mono ?_;rintro e w2 ⟨rfl,hb2⟩);go_ret;exact⟨by rw[hc.out];simp,hb2⟩
theorem aOy(l:List UInt8)(w:World)(hl:l.length<=9000000000000000000):
  Calls prog 62 #[.string ⟨l.toArray⟩] w fun e w'=>e=.returned (.int .i64 (if aJ (val l)=l then 0 else 1))/\Below w.heap.size w w':=by
 have H:=Hd (fun W=>aNa l W hl);generalize aJ (val l)=c at *
 by_cases hc:c=l
 ·subst hc;rw[if_pos rfl];go_enter func62,ntmps62;go_wp2_with (go_at_call 123;refine(H.out _).mono ?_;rintro e w2 ⟨rfl,hb2⟩);go_ret;exact⟨rfl,hb2⟩
 ·rw[if_neg hc];have h1:(l==c)=false:=by simp;exact fun h=>hc h.symm
  clear hc;go_enter func62,ntmps62;go_wp2_with (go_at_call 123;refine(H.out _).mono ?_;rintro e w2 ⟨rfl,hb2⟩);go_ret;exact⟨rfl,hb2⟩
end
section
open Go.RowKit
theorem bA0:(prog.info? 154).map (·.size)=some 2:=by kernel_rfl
theorem bBs:liesAt prog prog.depth 154 (2/prog.cellsOf 154) 0 154 1=true:=by kernel_rfl
theorem bBt:(prog.info? 5).map (fun i=>(i.zero,i.size,i.bytes))=some (some (.int .u8 0),1,1):=by kernel_rfl
theorem Ao(b:Nat)(w:World)(h0:w.cell? ⟨b,0,none⟩=some (.pointer (some ⟨b,0,none⟩))):
  Calls prog 160 #[.pointer (some ⟨b,0,none⟩)] w fun e w'=>e=.returned (.tuple #[])/\w=w':=by
 obtain⟨j,hj,_⟩:=Option.map_eq_some_iff.1 bA0;go_enter func160,ntmps160;go_wp2;rw[Lib.run_neq_ptr_same w _ underlying151 hj];go_wp2;go_end0;exact⟨rfl,rfl⟩
theorem xW(b:Nat)(w:World)(h0:w.cell? ⟨b,0,none⟩=some (.pointer none))(hsh:w.shape? b=some (154,2))(hfz:w.frozen? ⟨b,0,none⟩=false):
  Calls prog 160 #[.pointer (some ⟨b,0,none⟩)] w fun e w'=>e=.returned (.tuple #[])/\w'=w.setCell ⟨b,0,none⟩ (.pointer (some ⟨b,0,none⟩)):=by
 obtain⟨j,hj,hjs⟩:=Option.map_eq_some_iff.1 bA0;go_enter func160,ntmps160;go_wp2;rw[Lib.run_to_unsafe w ⟨b,0,none⟩ underlying151 underlying213 hj (by rw[hjs];decide) hsh (Nat.zero_lt_succ 1)];simp only[Result.andThen];rw[Oper.upon_value];go_wp2;rw[run_callFunc_extern func200 (by kernel_rfl) (by kernel_rfl) (by kernel_rfl) (e:=Extern.AbiNoEscape.same) (by kernel_rfl)];rw[Lib.run_noEscape];simp only[Result.andThen];rw[Oper.upon_value];go_wp2;rw[Lib.run_from_unsafe w ⟨b,0,none⟩ underlying213 underlying151 hj hsh bBs];simp only[Result.andThen];rw[Oper.upon_value];go_wp2;go_end0;exact⟨rfl,rfl⟩
theorem rU(B b:Nat)(bs:List Value)(w:World)(h:Lib.IsBuilder 154 5 B b bs w):
  Calls prog 160 #[.pointer (some ⟨b,0,none⟩)] w fun e w'=>e=.returned (.tuple #[])/\(Lib.BuilderAt 154 5 B b (.pointer (some ⟨b,0,none⟩)) bs w'/\Below B w w'):=by
 rcases h with h|h
 ·refine(xW b w h.cell0 h.shape h.frozen0).mono ?_;rintro e w' ⟨rfl,rfl⟩;exact⟨rfl,h.used _,(Br B w).setCell (p:=⟨b,0,none⟩) h.1 _⟩
 ·refine(Ao b w h.cell0).mono ?_;rintro e w' ⟨rfl,rfl⟩;exact⟨rfl,h,Br B _⟩
theorem Bg(B b:Nat)(bs:List Value)(c:Int)(w:World)(h:Lib.IsBuilder 154 5 B b bs w)(hlen:bs.length+1<=140737488355328)(hBw:B<=w.heap.size):
  Calls prog 114 #[.pointer (some ⟨b,0,none⟩),.int .u8 c] w fun e w'=>e=.returned .nilIface/\(Lib.BuilderAt 154 5 B b (.pointer (some ⟨b,0,none⟩)) (bs ++ [.int .u8 c]) w'/\Below B w w'):=by
 obtain⟨i0,hi,hz0,hz1,hz2⟩:=info_parts bBt;go_enter func114,ntmps114;go_wp2_with (go_at_call 160;refine(rU B b bs _ h).mono ?_);rintro e w1 ⟨rfl,h1,hb1⟩;obtain⟨hB,v,hbk,hown,hne⟩:=h1;have c0:w1.cell? ⟨b,0,none⟩=some (.pointer (some ⟨b,0,none⟩)):=by rw[Lib.cell_of_heap hbk];rfl
 have c1:w1.cell? ⟨b,1,none⟩=some v:=by rw[Lib.cell_of_heap hbk];rfl
 go_wp2_with (at_builtin;refine wpList_append_own _ rfl _ _ 152 rfl B 5 i0 (.int .u8 0) 1 1 underlying152 hi hz0 hz1 hz2 rfl (by decide) _ _ _ rfl (hown.alloc _) ⟨w1.heap.size,0,none⟩ 1 1 [.int .u8 c] rfl rfl ?c1 ?c2 ?c3 ?c4 ?c5 ?_)
 case c1 =>
  intro j u hj
  match j,hj with
  |0,hj=>simp at hj;subst hj;simp[Addr.add]
 case c2=>intro u hu;simp at hu;subst hu;rfl
 case c3=>unfold maxLen;omega
 case c4=>omega
 case c5=>have:=hb1.size;simp;omega
 intro v' w2 hown' hgrow _;have hlt:b<w1.heap.size:=by
  rcases Nat.lt_or_ge b w1.heap.size with h'|h'
  ·exact h'
  ·simp[Array.getElem?_eq_none h'] at hbk
 have hb2:w2.heap[b]?=some (.cells #[.pointer (some ⟨b,0,none⟩),v] 154 (0,0)):=by
  rw[hgrow.block b (by simp;omega) (fun e=>hne e.symm),Lib.alloc_old w1 _ b hlt];exact hbk
 have d0:w2.cell? ⟨b,0,none⟩=some (.pointer (some ⟨b,0,none⟩)):=by rw[Lib.cell_of_heap hb2];rfl
 have d1:w2.cell? ⟨b,1,none⟩=some v:=by rw[Lib.cell_of_heap hb2];rfl
 have f1:w2.frozen? ⟨b,1,none⟩=false:=Lib.frozen_of_heap hb2 1;obtain⟨g,cap,rfl⟩:∃g cap,v'=.slice (some ⟨g,0,none⟩) (bs.length+1) cap:=by
  rcases hown'.2 with⟨_,h0⟩|⟨g,cap,cur,hv,_⟩
  ·omega
  ·exact⟨g,cap,hv⟩
 go_wp2;go_ret;refine⟨rfl,?_,?_⟩
 ·exact Lib.BuilderAt.put (T:=154) (e:=5) hB hb2 (bs':=bs ++ [.int .u8 c]) (by simpa using hown') (by decide)
 ·exact((hb1.alloc (by have:=hb1.size;omega) _).grown hgrow (by have:=hb1.size;simp;omega) (fun k hk=>(hown.lt k hk).1)).setCell (p:=⟨b,1,none⟩) hB _
theorem pU(B b:Nat)(bs:List Value)(s:ByteArray)(w:World)(h:Lib.IsBuilder 154 5 B b bs w)(hlen:bs.length+s.size<=140737488355328)(hBw:B<=w.heap.size):
  Calls prog 115 #[.pointer (some ⟨b,0,none⟩),.string s] w fun e w'=>e=.returned (.tuple #[.int .i64 s.size,.nilIface])/\(Lib.BuilderAt 154 5 B b (.pointer (some ⟨b,0,none⟩)) (bs++Lib.strCells s) w'/\Below B w w'):=by
 obtain⟨i0,hi,hz0,hz1,hz2⟩:=info_parts bBt;go_enter func115,ntmps115;go_wp2_with (go_at_call 160;refine(rU B b bs _ h).mono ?_);rintro e w1 ⟨rfl,h1,hb1⟩;obtain⟨hB,v,hbk,hown,hne⟩:=h1;have c0:w1.cell? ⟨b,0,none⟩=some (.pointer (some ⟨b,0,none⟩)):=by rw[Lib.cell_of_heap hbk];rfl
 have c1:w1.cell? ⟨b,1,none⟩=some v:=by rw[Lib.cell_of_heap hbk];rfl
 go_wp2_with (at_builtin;refine Lib.wpList_append_own_string _ rfl _ _ 152 9 rfl B 5 i0 underlying152 underlying9 hi hz0 hz1 hz2 _ _ _ rfl hown s rfl ?c3 ?c4 ?c5 ?_)
 case c3=>unfold maxLen;omega
 case c4=>omega
 case c5=>have:=hb1.size;omega
 intro v' w2 hown' hgrow _;have hlt:b<w1.heap.size:=by
  rcases Nat.lt_or_ge b w1.heap.size with h'|h'
  ·exact h'
  ·simp[Array.getElem?_eq_none h'] at hbk
 have hb2:w2.heap[b]?=some (.cells #[.pointer (some ⟨b,0,none⟩),v] 154 (0,0)):=by
  rw[hgrow.block b hlt (fun e=>hne e.symm)];exact hbk
 have d0:w2.cell? ⟨b,0,none⟩=some (.pointer (some ⟨b,0,none⟩)):=by rw[Lib.cell_of_heap hb2];rfl
 have d1:w2.cell? ⟨b,1,none⟩=some v:=by rw[Lib.cell_of_heap hb2];rfl
 have f1:w2.frozen? ⟨b,1,none⟩=false:=Lib.frozen_of_heap hb2 1;obtain⟨ao,n',cap,rfl⟩:∃ao n' cap,v'=.slice ao n' cap:=by
  rcases hown'.2 with⟨hv,_⟩|⟨g,cap,cur,hv,_⟩
  ·exact⟨_,_,_,hv⟩
  ·exact⟨_,_,_,hv⟩
 go_wp2;go_ret2;refine⟨rfl,?_,?_⟩
 ·exact Lib.BuilderAt.put (T:=154) (e:=5) hB hb2 (bs':=bs++Lib.strCells s) (by simpa[Lib.strCells_length] using hown') (by decide)
 ·exact(hb1.grown hgrow (by have:=hb1.size;omega) (fun k hk=>(hown.lt k hk).1)).setCell (p:=⟨b,1,none⟩) hB _
end
section
open Go.RowKit Num
attribute [local go_sem] eW eN aV
theorem Qb(l:List UInt8)(acc:Nat)(hd:l.all bF=true)(hlt:acc*10^l.length+bK l<1000000000000000000):Lib.parseUintM 18446744073709551615 acc l=.ok (acc*10^l.length+bK l):=by
 induction l generalizing acc with
 |nil=>simp[Lib.parseUintM,bK]
 |cons c r ih =>
  simp only[List.all_cons,Bool.and_eq_true] at hd;have hc:=(dO c).1 hd.1;rw[gN,List.length_cons,Nat.pow_succ] at hlt ⊢;have e:acc*(10^r.length*10)+((c.toNat-48)*10^r.length+bK r)=(acc*10+(c.toNat-48))*10^r.length+bK r:=by
   rw[Nat.add_mul,Nat.mul_assoc,Nat.mul_comm 10 (10^r.length),Nat.add_assoc]
  rw[e] at hlt ⊢;have hp:1<=10^r.length:=Nat.one_le_pow _ _ (by decide);have hb:acc*10+(c.toNat-48)<=(acc*10+(c.toNat-48))*10^r.length:=Nat.le_mul_of_pos_right _ hp;rw[Lib.parseUintM,if_pos hc,if_neg (by omega),if_neg (by omega)];exact ih _ hd.2 hlt
theorem Gm(c:List UInt8)(hd:c.all bF=true)(hne:c ≠ [])(hl:c.length<=9):Lib.parseUintB 64 c=.ok (bK c):=by
 unfold Lib.parseUintB;rw[if_neg hne];have:=mR c hd;have h9:10^c.length<=10^9:=Nat.pow_le_pow_right (by decide) hl;have h:=Qb c 0 hd (by rw[Nat.zero_mul,Nat.zero_add];have:(10:Nat)^9=1000000000:=(by decide);omega);rw[Nat.zero_mul,Nat.zero_add] at h;exact h
theorem It(w:World)(e:TypeId)(s:ByteArray):Below w.heap.size w (Lib.bytesWorld w e s):=by
 exact Lib.bytesWorld_below _ _ _
theorem zC(c:List UInt8)(w:World)(hd:c.all bF=true)(hne:c ≠ [])(hl:c.length<=9):
  Calls prog 110 #[.string ⟨c.toArray⟩,.int .i64 10,.int .i64 64] w fun e w'=>e=.returned (.tuple #[.int .u64 (bK c:Int),.nilIface])/\Below w.heap.size w w' :=
 (strconv_ParseUint_10_at64_ok ⟨c.toArray⟩ (by rw[aV];omega) (bK c) (Gm c hd hne hl) w).mono fun e w' ⟨he,hw⟩=>⟨he,by
  rcases hw with rfl|rfl
  ·exact Br _ _
  ·exact It w _ _⟩
theorem dX(l:List UInt8)(w:World)(hl:l.length<=1000000000000):
  Calls prog 55 #[.string ⟨l.toArray⟩] w fun e w'=>∃a c,e=.returned (.agg #[.bool (dD l),.slice a (aC (bK (aZ l))).length c])/\(aC (bK (aZ l))).length<=c/\eO w.heap.size a/\dT w' a (gs (aC (bK (aZ l))))/\Below w.heap.size w w':=by
 have H:=Hd (fun W=>Lw l W (by omega));have hdl:=nN l;have hda:=fD l;have hdh:=jY l;generalize aZ l=d at *;generalize dD l=ng at *;have HD:=Hd (And.intro hda hdh);clear hda hdh;go_enter func55,ntmps55;go_wp2_with (go_at_call 109;refine(H.out _).mono ?_;rintro e w1 ⟨rfl,hb1⟩);have hres:Hid (w1.heap[w.heap.size]?=some (.cells #[.bool false,.slice none 0 0] 97 (0,0))):=by
  refine(hb1.block w.heap.size (by simp)).trans ?_;exact heap_alloc_new w _
 have hbw:Below w.heap.size w w1:=((Br _ _).alloc (Nl _) _).trans (hb1.mono (by simp));have hsz:w.heap.size+1<=w1.heap.size:=by have:=hb1.size;simp at this;omega
 have HZ:=Hd hsz;clear hb1 hsz;go_loopw [5,6,7,8] (fun v en _ _ wr=>∃(m:List Nat),en=.int .i64 ((d.length:Int)-9*(m.length:Int))/\m.length*9<=d.length+8/\Hid ((∀g∈m,g<1000000000)/\aI m+1000000000^m.length*bK (d.take (d.length-9*m.length))=bK d)/\Hid (wr.ownsRow (w.heap.size+1) 144 1 v m.length (gs m))/\Hid (wr.heap[w.heap.size]?=some (.cells #[.bool false,.slice none 0 0] 97 (0,0)))/\Below w.heap.size w wr/\w.heap.size+1<=wr.heap.size) (fun _ en _ _ _=>(intOf en).toNat)
 case atStart =>
  refine⟨[],by simp,by simp,⟨by simp,by simp[aI]⟩,World.ownsRow_nil _ _ _ _,hres,hbw,HZ.out⟩
 case round =>
  obtain⟨m,rfl,hml,hv,hown,hre,hbr,hsr⟩:=hrel
  by_cases hpos:9*m.length<d.length
  ·obtain⟨e,he⟩:∃e:Nat,e=d.length-9*m.length:=⟨_,rfl⟩
   have hst:=Hd (xD HD.out.1 (e:=e) (by omega) (by omega) hv.out.1 (by rw[he];exact hv.out.2));have hcd:((d.drop (e-9)).take (e-(e-9))).all bF=true:=by
    have:=HD.out.1;rw[List.all_eq_true] at *;exact fun x hx=>this x (List.mem_of_mem_drop (List.mem_of_mem_take hx))
   have hcl:((d.drop (e-9)).take (e-(e-9))).length=e-(e-9):=by rw[List.length_take,List.length_drop];omega
   have HP:=Hd (fun W=>zC ((d.drop (e-9)).take (e-(e-9))) W hcd (by intro h;rw[h] at hcl;simp at hcl;omega) (by omega));have eI:(d.length:Int)-9*(m.length:Int)=(e:Int):=by omega
   rw[eI];have hepos:0<e:=by omega
   have hed:e<=d.length:=by omega
   have HE:=Hd he;clear hcd hcl he eI;have hsl:∀W,(Instr.slice 9 (.string ⟨d.toArray⟩) (some (.int .i64 (max 0 ((e:Int)-9)))) (some (.int .i64 (e:Int))) none).run prog W=.ok (.string ⟨((d.drop (e-9)).take (e-(e-9))).toArray⟩) W:=fun W=>by
    rw[run_slice_string W 9 ⟨d.toArray⟩ .i64 .i64 _ _ underlying9 (by omega) (by omega) (by rw[aV];omega),eN,show (max 0 ((e:Int)-9)).toNat=e-9 by omega,Int.toNat_natCast]
   obtain⟨c,hc⟩:∃c,c=(d.drop (e-9)).take (e-(e-9)):=⟨_,rfl⟩
   rw[<-hc] at hsl HP hst;clear hc;have hz:=hbr.size;obtain⟨i0,hi,hz0,hz1,hz2⟩:=info_parts pB;go_wp2_with (go_at_call 110;refine(HP.out _).mono ?_);rintro e1 w2 ⟨rfl,hb2⟩;have HOWN:Hid (w2.ownsRow (w.heap.size+1) 144 1 u5 m.length (gs m)):=hown.out.kept (row:=none) ⟨hb2.os,hb2.tape,hb2.output,hb2.size,fun k hk _=>hb2.block k hk⟩ (by
    cases hq:u5.ownBlock with
    |none=>exact .inl rfl
    |some q=>exact .inr (by simp))
   have hre2:Hid (w2.heap[w.heap.size]?=some (.cells #[.bool false,.slice none 0 0] 97 (0,0))):=(hb2.block _ (by omega)).trans hre.out;have hbr2:Below w.heap.size w w2:=aA hbr hb2;have hsz2:=hb2.size;clear hown hre hsl;go_wp2_with (at_builtin;refine wpList_append_own _ rfl _ _ 95 rfl (w.heap.size+1) 144 i0 (.int .u64 0) 1 8 underlying95 hi hz0 hz1 hz2 rfl (by decide) _ _ _ rfl (HOWN.out.alloc _) ⟨w2.heap.size,0,none⟩ 1 1 [.int .u64 (bK c:Int)] rfl rfl ?c1 ?c2 ?c3 ?c4 ?c5 ?_)
   case c1 =>
    intro j u hj
    match j,hj with
    |0,hj=>simp at hj;subst hj;simp[Addr.add]
   case c2=>intro u hu;simp at hu;subst hu;rfl
   case c3=>unfold maxLen;omega
   case c4=>omega
   case c5=>simp;omega
   intro v' w3 hown' hgrow _;have HO3:Hid (w3.ownsRow (w.heap.size+1) 144 1 v' (m ++ [bK c]).length (gs (m ++ [bK c]))):=by
    show w3.ownsRow (w.heap.size+1) 144 1 v' (m ++ [bK c]).length (gs (m ++ [bK c]));rw[gY];simpa[gs] using hown'
   have hob:=fun q hq=>(HOWN.out.lt q hq).1
   have HR3:Hid (w3.heap[w.heap.size]?=some (.cells #[.bool false,.slice none 0 0] 97 (0,0))):=by
    refine(hgrow.block w.heap.size (by simp;omega) (fun h=>by have:=hob _ h.symm;omega)).trans ?_;rw[Below.heap_alloc _ _ _ (by omega)];exact hre2.out
   have hbr3:Below w.heap.size w w3:=(hbr2.alloc (by omega) _).grown hgrow (by simp;omega) (fun q hq=>by have:=hob q hq;omega);have hsz3:w2.heap.size+1<=w3.heap.size:=by have:=hgrow.size;simpa using this
   clear hown' hgrow HOWN;go_wp2;refine⟨⟨m ++ [bK c],?_,?_,⟨hst.out.1,?_⟩,HO3,HR3,hbr3,by omega⟩,by simp[intOf];omega⟩
   ·have:=HE.out;simp;omega
   ·have:=HE.out;simp;omega
   ·have h2:=hst.out.2;have:=HE.out;rw[show d.length-9*(m ++ [bK c]).length=e-9 by simp;omega];exact h2
  ·have hge:¬ (0:Int)<(d.length:Int)-9*(m.length:Int):=by omega
   have hfin:Hid (m=aC (bK d)):=zU HD.out.1 HD.out.2 hv.out.1 (by have:=hv.out.2;rw[show d.length-9*m.length=0 by omega] at this;simpa[bK] using this) (by omega);obtain⟨a0,c0,rfl,hrow⟩:=gK hown.out;have hcc:m.length<=c0:=by
    rcases hown.out.2 with⟨e1,h0⟩|⟨g,cap,cur,e1,_,_,hle,_⟩
    ·omega
    ·injection e1 with _ _ e3;omega
   have HROW:=Hd hrow;have k0:wr.cell? ⟨w.heap.size,0,none⟩=some (.bool false):=by rw[Lib.cell_of_heap hre.out];rfl
   have k1:wr.cell? ⟨w.heap.size,1,none⟩=some (.slice none 0 0):=by rw[Lib.cell_of_heap hre.out];rfl
   have f0:wr.frozen? ⟨w.heap.size,0,none⟩=false:=Lib.frozen_of_heap hre.out 0;have f1:wr.frozen? ⟨w.heap.size,1,none⟩=false:=Lib.frozen_of_heap hre.out 1;have hob:=fun q (hq:(Value.slice a0 m.length c0).ownBlock=some q)=>(hown.out.lt q hq).1
   have hnb:∀b off,a0=some ⟨b,off,none⟩->b≠w.heap.size:=fun b off hb=>by
    have:=hob b (by rw[hb];rfl);omega
   have HNB:=Hd hnb;have HFR:Hid (eO w.heap.size a0):=fun b off hb=>by
    have:=hob b (by rw[hb];rfl);omega
   clear hown hrow hob hnb;go_wp2;refine bodyPost_ret (v:=.agg #[.bool ng,.slice a0 m.length c0]) (by simp[results,results55,go_sem,k0,k1]) rfl ⟨a0,c0,by rw[<-hfin.out],by rw[<-hfin.out];exact hcc,HFR.out,?_,?_⟩
   ·rw[<-hfin.out];exact((HROW.out.setCell (p:=⟨w.heap.size,0,none⟩) (fun b off hb=>HNB.out b off hb) _).setCell (p:=⟨w.heap.size,1,none⟩) (fun b off hb=>HNB.out b off hb) _)
   ·exact(hbr.setCell (p:=⟨w.heap.size,0,none⟩) (Nl _) _).setCell (p:=⟨w.heap.size,1,none⟩) (Nl _) _
end
section
open Go.RowKit Num
attribute [local go_sem] eW eN aV
theorem rW{T e:TypeId}{B b:Nat}{p:Value}{bs:List Value}{w w':World}(h:Lib.BuilderAt T e B b p bs w)(hb:Below w.heap.size w w'):Lib.BuilderAt T e B b p bs w':=by
 obtain⟨h1,v,h2,h3,h4⟩:=h;refine⟨h1,v,(hb.block b (Ai.1 h2).1).trans h2,?_,h4⟩;refine h3.kept (row:=none) ⟨hb.os,hb.tape,hb.output,hb.size,fun k hk _=>hb.block k hk⟩ ?_;cases hq:v.ownBlock with
 |none=>exact .inl rfl
 |some q=>exact .inr (by simp)
theorem lQ{T e:TypeId}{B b:Nat}{bs:List Value}{w w':World}(h:Lib.IsBuilder T e B b bs w)(hb:Below w.heap.size w w'):Lib.IsBuilder T e B b bs w' :=
 h.imp (fun h=>rW h hb) (fun h=>rW h hb)
theorem vU(l:List UInt8):Lib.strCells ⟨l.toArray⟩=Lib.byteCells l:=rfl
theorem oT(a b:List UInt8):Lib.byteCells (a++b)=Lib.byteCells a++Lib.byteCells b:=by simp[Lib.byteCells]
theorem Dm(k:Nat):Lib.repeatL [48] k=List.replicate k 48:=by
 induction k with
 |zero=>rfl
 |succ k ih=>rw[Lib.repeatL,ih];rfl
theorem Ke(k:Nat)(w:World)(hk:k<=1000):
  Calls prog 117 #[.string ⟨#[48]⟩,.int .i64 (k:Int)] w fun e w'=>e=.returned (.string ⟨(List.replicate k 48).toArray⟩)/\Below w.heap.size w w':=by
 have h:=strings_Repeat ⟨#[48]⟩ k w (by omega) (by show 1*k<=_;omega);have e:Lib.repeatL (⟨#[48]⟩:ByteArray).data.toList k=List.replicate k 48:=Dm k;rw[e] at h;exact h
theorem uB{m:List Nat}(hm:∀g∈m,g<1000000000)(hne:m ≠ []):(Lib.decDigits (aI m)).length<=9*m.length:=by
 rw[Lib.decDigits_length];have h:=fW hm;have e9:(1000000000:Nat)=10^9:=by decide
 rw[e9,<-Nat.pow_mul] at h;exact jU _ _ (by have:=List.length_pos_iff.2 hne;omega) h
theorem Ph(neg:Bool)(a:Option Addr)(cap:Nat)(w:World):
  Calls prog 57 #[.agg #[.bool neg,.slice a 0 cap]] w fun e w'=>e=.returned (.string ⟨#[]⟩)/\Below w.heap.size w w':=by
 go_enter func57,ntmps57;go_wp2_with (go_at_call 113;refine(Ex a cap _).mono ?_;rintro e w1 ⟨rfl,rfl⟩);go_ret;exact⟨rfl,(Br _ _).alloc (Nl _) _⟩
theorem Pi(m:List Nat)(hm:Cd m)(hne:m ≠ [])(neg:Bool)(b off cap:Nat)(w:World)(hE:iE w)(hl:m.length<=cap)(hlen:m.length<=1000000000000)(hb:b<w.heap.size)(hc:∀k u,(gs m)[k]?=some u->w.cell? ⟨b,off+k,none⟩=some u):
  Calls prog 57 #[.agg #[.bool neg,.slice (some ⟨b,off,none⟩) m.length cap]] w fun e w'=>e=.returned (.string ⟨((if neg=true then[45] else[])++Lib.decDigits (aI m)).toArray⟩)/\Below w.heap.size w w':=by
 have HCUT:=Hd (fun W (hW:∀k u,(gs m)[k]?=some u->W.cell? ⟨b,off+k,none⟩=some u)=>Am m b off cap W hl (by omega) hW);rw[Rh hm.2] at HCUT;have HC:Hid (∀W,Below w.heap.size w W->∀k,k<m.length->W.cell? ⟨b,off+k,none⟩=some (.int .u64 ((m.getD k 0:Nat):Int))):=fun W hW k hk=>(hW.cell (p:=⟨b,off+k,none⟩) hb).trans (hc k _ (mW m k hk))
 have HC0:=Hd hc;have HM:=Hd hm;have HE:=Hd hE;obtain⟨y,hy⟩:∃y,m.length=y+1:=⟨m.length-1,by have:=List.length_pos_iff.2 hne;omega⟩
 have HY:=Hd hy;have hgy:=hm.1 _ (lI (m:=m) (k:=y) (by omega));have hdy:m.drop y=[m.getD y 0]:=by rw[dI m y (by omega),List.drop_eq_nil_of_le (by omega)]
 have htop:Hid (aI (m.drop y)=m.getD y 0):=by rw[hdy];exact Nat.add_zero _
 rw[hy] at hl hlen HCUT ⊢;obtain⟨pre,hpre⟩:∃pre:List UInt8,pre=if neg=true then[45] else[]:=⟨_,rfl⟩
 have hpl:pre.length<=1:=by rw[hpre];split <;> simp
 rw[<-hpre];clear hc hm hne hy hE hdy;have hk0:=fun o1 o2=>HC.out ((w.alloc o1).alloc o2) (((Br _ _).alloc (Nl _) _).alloc (by simp) _) y (by rw[HY.out];omega)
 generalize hgg:m.getD y 0=g at *;have HG:=Hd hgg;clear hgg;cases neg
 case' true =>
  rw[if_pos rfl] at hpre;go_enter func57,ntmps57;go_wp2_with (go_at_call 113;refine(HCUT.out _ (fun k u hu=>Lib.cell?_alloc_some _ (HC0.out k u hu))).mono ?_;rintro e w1 ⟨rfl,rfl⟩);refine(Bg (w.heap.size+1) (w.heap.size+1) [] 45 _ (by have:=Lib.fresh_isBuilder 154 5 (w.alloc (Obj.cells #[Value.bool true,Value.slice (some ⟨b,off,none⟩) (y+1) cap] 97));simpa using this) (by simp) (by simp)).mono ?_;rintro e w1 ⟨rfl,hB1,hb1⟩;have hbw:Below w.heap.size w w1:=(((Br _ _).alloc (Nl _) _).alloc (by simp) _).trans (hb1.mono (by omega));have hsz:w.heap.size+2<=w1.heap.size:=by have:=hb1.size;simp at this;omega
  have HB1:Hid (Lib.IsBuilder 154 5 (w.heap.size+1) (w.heap.size+1) (Lib.byteCells pre) w1):=by rw[hpre];exact .inr hB1
  have HPRE:=Hd hpre;have hk1:=HC.out w1 hbw y (by rw[HY.out];omega);rw[HG.out] at hk1;clear hb1 hB1 hpre hk0
 case' false =>
  rw[if_neg (by decide)] at hpre;go_enter func57,ntmps57;go_wp2_with (go_at_call 113;refine(HCUT.out _ (fun k u hu=>Lib.cell?_alloc_some _ (HC0.out k u hu))).mono ?_;rintro e w1 ⟨rfl,rfl⟩);have hB1:Lib.IsBuilder 154 5 (w.heap.size+1) (w.heap.size+1) [] ((w.alloc (Obj.cells #[Value.bool false,Value.slice (some ⟨b,off,none⟩) (y+1) cap] 97)).alloc (Obj.cells #[Value.pointer none,Value.slice none 0 0] 154)):=by
   have:=Lib.fresh_isBuilder 154 5 (w.alloc (Obj.cells #[Value.bool false,Value.slice (some ⟨b,off,none⟩) (y+1) cap] 97));simpa using this
  have hbw:Below w.heap.size w ((w.alloc (Obj.cells #[Value.bool false,Value.slice (some ⟨b,off,none⟩) (y+1) cap] 97)).alloc (Obj.cells #[Value.pointer none,Value.slice none 0 0] 154)):=((Br _ _).alloc (Nl _) _).alloc (by simp) _;have hsz:w.heap.size+2<=((w.alloc (Obj.cells #[Value.bool false,Value.slice (some ⟨b,off,none⟩) (y+1) cap] 97)).alloc (Obj.cells #[Value.pointer none,Value.slice none 0 0] 154)).heap.size:=by simp
  generalize(w.alloc (Obj.cells #[Value.bool false,Value.slice (some ⟨b,off,none⟩) (y+1) cap] 97)).alloc (Obj.cells #[Value.pointer none,Value.slice none 0 0] 154)=w1 at *;have HB1:Hid (Lib.IsBuilder 154 5 (w.heap.size+1) (w.heap.size+1) (Lib.byteCells pre) w1):=by rw[hpre];exact hB1
  have HPRE:=Hd hpre;have hk1:=HC.out w1 hbw y (by rw[HY.out];omega);rw[HG.out] at hk1;clear hB1 hpre hk0
 case' true=>go_wp2_with fail
 all_goals
  refine(qK g (by omega) _ (HE.out.below hbw)).mono ?_;rintro e w2 ⟨rfl,hb2⟩;go_wp2_with fail;refine(pU (w.heap.size+1) (w.heap.size+1) (Lib.byteCells pre) ⟨(Lib.decDigits g).toArray⟩ _ (lQ HB1.out hb2) (by rw[Lib.byteCells_length,aV];have:=oD g hgy;omega) (by have:=hb2.size;omega)).mono ?_;rintro e w3 ⟨rfl,hB3,hb3⟩;have HB3:Hid (Lib.IsBuilder 154 5 (w.heap.size+1) (w.heap.size+1) (Lib.byteCells (pre++Lib.decDigits (aI (m.drop y)))) w3):=by
   rw[htop.out,oT,<-vU (Lib.decDigits g)];exact .inr hB3
  have hbw3:Below w.heap.size w w3:=(aA hbw hb2).trans (hb3.mono (by omega));have hsz3:w.heap.size+2<=w3.heap.size:=by have:=hb3.size;have:=hb2.size;omega
  clear hB3 hb3 hb2 HB1 hbw hsz hk1 htop;go_wp2;go_loopw [5,6] (fun i _ wr=>∃k:Nat,k<=y/\i=.int .i64 ((k:Int)-1)/\Hid (Lib.IsBuilder 154 5 (w.heap.size+1) (w.heap.size+1) (Lib.byteCells (pre++Lib.decDigits (aI (m.drop k)))) wr)/\Below w.heap.size w wr/\w.heap.size+2<=wr.heap.size) (fun i _ _=>(intOf i+1).toNat)
  case atStart=>exact⟨y,Nl _,congrArg (Value.int .i64) (by omega),HB3,hbw3,hsz3⟩
  case round =>
   obtain⟨k,hk,rfl,hB,hbr,hsr⟩:=hrel;clear HB3 hbw3 hsz3;rcases Nat.eq_zero_or_pos k with rfl|hpos
   ·go_wp2_with (go_at_call 118;refine(Builder_String_any (w.heap.size+1) (w.heap.size+1) _ _ hB.out (by omega)).mono ?_;rintro e w5 ⟨rfl,hb5⟩);go_ret;exact⟨rfl,hbr.trans (hb5.mono (by omega))⟩
   ·obtain⟨j,rfl⟩:∃j,k=j+1:=⟨k-1,by omega⟩
    have hkj:=HC.out wr hbr j (by rw[HY.out];omega);have hgj:=HM.out.1 _ (lI (m:=m) (k:=j) (by rw[HY.out];omega));have hdd:=Hd (Al HM.out (k:=j) (by rw[HY.out];omega));generalize m.getD j 0=gj at *;have hl9:=oD gj hgj;go_wp2_with fail;refine(qK gj (by omega) _ (HE.out.below hbr)).mono ?_;rintro e w5 ⟨rfl,hb5⟩;go_wp2_with fail;rw[show (9:Int)-((Lib.decDigits gj).length:Int)=((9-(Lib.decDigits gj).length:Nat):Int) by omega];refine(Ke _ _ (by omega)).mono ?_;rintro e w6 ⟨rfl,hb6⟩;go_wp2_with fail;have hlp:(Lib.decDigits (aI (m.drop (j+1)))).length<=10000000000000:=by
     have h1:=uB (m:=m.drop (j+1)) (fun x hx=>HM.out.1 x (List.mem_of_mem_drop hx)) (by intro e;have h2:=congrArg List.length e;have h3:=HY.out;rw[List.length_drop] at h2;simp at h2;omega);have h3:=HY.out;rw[List.length_drop] at h1;omega
    refine(pU (w.heap.size+1) (w.heap.size+1) _ _ _ (lQ (lQ hB.out hb5) hb6) (by rw[Lib.byteCells_length,aV];simp;omega) (by have:=hb5.size;have:=hb6.size;omega)).mono ?_;rintro e w7 ⟨rfl,hB7,hb7⟩;have HB7:Hid (Lib.IsBuilder 154 5 (w.heap.size+1) (w.heap.size+1) (Lib.byteCells (pre++Lib.decDigits (aI (m.drop j)))) w7):=by
     rw[hdd.out,<-List.append_assoc,oT,<-vU (Bj gj)];exact .inr hB7
    have hbw7:Below w.heap.size w w7:=(aA (aA hbr hb5) hb6).trans (hb7.mono (by omega));have hsz7:w.heap.size+2<=w7.heap.size:=by have:=hb7.size;have:=hb6.size;have:=hb5.size;omega
    clear hB7 hb7 hb6 hb5 hB hbr hkj hdd;go_wp2;refine⟨⟨j,by omega,by first|rfl|(exact congrArg (Value.int .i64) (by omega)),HB7,hbw7,hsz7⟩,by simp[intOf]⟩
theorem fJ(x:Nat)(neg:Bool)(a:Option Addr)(cap:Nat)(w:World)(hE:iE w)(hl:(aC x).length<=cap)(hlen:(aC x).length<=1000000000000)(hr:dT w a (gs (aC x))):
  Calls prog 57 #[.agg #[.bool neg,.slice a (aC x).length cap]] w fun e w'=>e=.returned (.string ⟨(Fw neg x).toArray⟩)/\Below w.heap.size w w':=by
 by_cases hx:x=0
 ·subst hx;rw[aT];exact Ph neg a cap w
 ·have hne:aC x ≠ []:=by rw[Ne,bO];exact hx
  obtain⟨b,off,rfl,hb,hc⟩:=hr.addr (tT hne);have h:=Pi (aC x) (dJ x) hne neg b off cap w hE hl hlen hb hc;rw[aQ] at h;have e:(if neg=true then[45] else[])++Lib.decDigits x=Fw neg x:=by
   unfold Fw;rw[if_neg hx];cases neg <;> rfl
  rwa [e] at h
end
end Go.Proofs.YtiloklnjjfaagaaGreatDoor
