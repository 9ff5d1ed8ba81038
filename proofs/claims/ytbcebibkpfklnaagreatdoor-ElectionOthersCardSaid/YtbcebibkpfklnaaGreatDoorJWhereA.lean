/- Where Last Last2 Choice Late -/
import Derived.Test.YtbcebibkpfklnaaGreatDoorJMem
import Derived.Test.YtbcebibkpfklnaaGreatDoorJLog
import Derived.Test.YtbcebibkpfklnaaGreatDoorJViewA
import Derived.Test.YtbcebibkpfklnaaGreatDoorJWith
import Derived.Test.YtbcebibkpfklnaaGreatDoorJClassA
import Derived.Test.YtbcebibkpfklnaaGreatDoorJGreat2
import Derived.RangeFuncNested
import Derived.RangeFuncBound
import Derived.RangeFuncCalls
import Derived.RangeFuncLeaves
import Derived.RangeFuncFrom
import Derived.Shelf.Abstract
import Derived.Shelf.RegionOpen
import Derived.WalkKit
import Derived.OwnWalkIn
import Derived.TacticsInMore
import Derived.LoopNIn
import Derived.LoopIn
import Derived.RangeFuncBox
import Derived.Laws.ResultCell
import Derived.Maps.AppendAt
set_option maxHeartbeats 16000000
set_option maxRecDepth 100000
namespace Go.Proofs.YtbcebibkpfklnaaGreatDoor
section
open Go Go.RowKit Go.Shelf Num
theorem gZ{w w':World}(h:Below w.heap.size w w'):w.grownBy w' none:=⟨h.os,h.tape,h.output,h.size,fun k hk _=>h.block k hk⟩
section
variable {F:Fence}{n:Nat}{P:Program}{ops:Array Oper}{Q:Exit→Act→World→Prop}{a:Act}{w:World}{rest:List Oper}{o:Oper}
theorem eP(hgd:Region.wanted o (yielded ops a.tmps)=true)(ty:TypeId)(x:Operand)(ho:o.op=.load ty x)(g:Nat)(hx:a.eval x=.pointer (some ⟨g,0,none⟩))(cs:Array Value)(d:TypeDesc){T:TypeId}(hg:aP w g cs T)
  (hu:P.underlying ty=some d) (hd:(match d with | .struct _ | .array _ _=>true|_=>false)=true) (hi:(P.info? ty).map (·.size)=some cs.size) (h:wpListIn F n P ops Q rest (a.put o.dst (.agg cs)) w):wpListIn F n P ops Q (o::rest) a w:=by
 refine wpListIn_step fun K hK=>?_
 rw[if_pos hgd];refine⟨fun f hf=>(by unfold Oper.about at hf;rw[ho] at hf;cases hf),?_⟩;rw[Oper.semAt_plain F _ _ (by rw[ho];intro c hc;cases hc)];unfold execOp;simp only[ho,hx,Instr.loadAt,Instr.sureAddr,Sem.run_bind,Sem.run_pure,Result.andThen_ok,jD w g 0 ty cs d (fun j v hv=>by rw[Nat.zero_add,hg.cell j,←Array.getElem?_toList];exact hv) hu hd hi];exact hK _ _ h
theorem uP(hgd:Region.wanted o (yielded ops a.tmps)=true)(ty:TypeId)(x:Operand)(ho:o.op=.load ty x)(g off:Nat)(hx:a.eval x=.pointer (some ⟨g,off,none⟩))(cs:Array Value)(d:TypeDesc)(hc:∀j v,cs.toList[j]?=some v→w.cell? ⟨g,off+j,none⟩=some v)
  (hu:P.underlying ty=some d) (hd:(match d with | .struct _ | .array _ _=>true|_=>false)=true) (hi:(P.info? ty).map (·.size)=some cs.size) (h:wpListIn F n P ops Q rest (a.put o.dst (.agg cs)) w):wpListIn F n P ops Q (o::rest) a w:=by
 refine wpListIn_step fun K hK=>?_
 rw[if_pos hgd];refine⟨fun f hf=>(by unfold Oper.about at hf;rw[ho] at hf;cases hf),?_⟩;rw[Oper.semAt_plain F _ _ (by rw[ho];intro c hc;cases hc)];unfold execOp;simp only[ho,hx,Instr.loadAt,Instr.sureAddr,Sem.run_bind,Sem.run_pure,Result.andThen_ok,jD w g off ty cs d hc hu hd hi];exact hK _ _ h
theorem sC(hgd:Region.wanted o (yielded ops a.tmps)=true)(ty:TypeId)(x y:Operand)(ho:o.op=.store ty x y)(g:Nat)(hx:a.eval x=.pointer (some ⟨g,0,none⟩))(cells:Array Value)(hy:a.eval y=.agg cells)
  {t:TypeId}{old:Array Value}(hg:w.heap[g]?=some (.cells old t (0,0))) (hi:(P.info? ty).map (·.size)=some cells.size) (hold:old.size=cells.size) (h1:cells.all (·.oneCell')=true)
  (h:wpListIn F n P ops Q rest (a.put o.dst undef) (w.setRow g cells)):wpListIn F n P ops Q (o::rest) a w:=by
 refine wpListIn_step fun K hK=>?_
 rw[if_pos hgd];refine⟨fun f hf=>(by unfold Oper.about at hf;rw[ho] at hf;cases hf),?_⟩;rw[Oper.semAt_plain F _ _ (by rw[ho];intro c hc;cases hc)];unfold execOp;simp only[ho,hx,hy,Instr.storeAt,Instr.sureAddr,Sem.run_bind,Sem.run_pure,Result.andThen_ok,run_storeVar_row w g t ty old cells hg hi hold h1];exact hK _ _ h
end
theorem bQ{F:Fence}{n:Nat}{P:Program}{ops:Array Oper}{Q:Exit→Act→World→Prop}{a:Act}{w:World}{rest:List Oper}{o:Oper}(hgd:Region.wanted o (yielded ops a.tmps)=true)(ty:TypeId)(x y:Operand)(ho:o.op=.store ty x y)(g:Nat)(hx:a.eval x=.pointer (some ⟨g,0,none⟩))(cells:Array Value)(hy:a.eval y=.agg cells)
  {t:TypeId}{old:Array Value}(hg:w.heap[g]?=some (.cells old t (0,0))) (hi:(P.info? ty).map (·.size)=some cells.size) (hold:old.size=cells.size) (h1:cells.all (·.oneCell')=true)
  (h:∀w',aP w' g cells t→(∀B,B≤g→Below B w w')→KeepsOthers w w'→(∀b cs T,b≠g→aP w b cs T→aP w' b cs T)→w.grownBy w' (some g)→wpListIn F n P ops Q rest (a.put o.dst undef) w'):wpListIn F n P ops Q (o::rest) a w:=by
 refine sC hgd ty x y ho g hx cells hy hg hi hold h1 (h _ ⟨by simp[World.setRow];exact(Ai.1 hg).1,setRow_heap _ _ _ _ _ _ hg⟩ (fun B hB=>below_setRow (Br _ _) hB _) ⟨by simp[World.setRow],fun k o hk ho=>?_⟩ (fun b cs T hne hb=>⟨by simp[World.setRow];exact hb.1,(setRow_other w g b cells hne).trans hb.2⟩) ⟨rfl,rfl,rfl,by simp[World.setRow],fun k _ hk=>setRow_other w g k cells (fun e=>hk (by rw[e]))⟩);refine(setRow_other w g k cells fun e=>?_).trans hk;subst e;rw[hg] at hk;cases hk;cases ho
theorem aAv(fc:Array Value)(w:World):
  Calls Tryz.prog 68 #[.agg fc] w fun e w'=>∃bf,e=.returned (.func (.func 95) #[] #[.pointer (some ⟨bf,0,none⟩)])∧w.heap.size≤bf∧aP w' bf fc 30∧Below w.heap.size w w':=by
 go_enter Tryz.func68,Tryz.ntmps68;go_wp2;go_ret;exact⟨_,rfl,Nl _,aP.new0 w fc _,aB _ _⟩
theorem Xl(x f:aF)(bf:Nat)(w:World)(hb:aP w bf f.arr 30):
  Calls Tryz.prog 95 #[.agg x.arr,.pointer (some ⟨bf,0,none⟩)] w fun e w'=>e=.returned (.bool (bN x.f f.f))∧Below w.heap.size w w':=by
 have KX:=aP.new0 w x.arr 30;have KF:=hb.below (aB w (.cells x.arr 30));have x4:=(KX.cell 4).trans (show _=some (.int .i64 x.f.kind) from rfl);have x8:=(KX.cell 8).trans (show _=some (.string ⟨x.f.target.toArray⟩) from rfl);have x5:=(KX.cell 5).trans (show _=some (.string ⟨x.f.ins.toArray⟩) from rfl);have x3:=(KX.cell 3).trans (show _=some (.int .i64 x.f.day) from rfl);have x17:=(KX.cell 20).trans (show _=some (.int .i64 x.f.choice) from rfl);have f0:=(KF.cell 0).trans (show _=some (.string ⟨f.f.key.toArray⟩) from rfl);have f5:=(KF.cell 5).trans (show _=some (.string ⟨f.f.ins.toArray⟩) from rfl);have f3:=(KF.cell 3).trans (show _=some (.int .i64 f.f.day) from rfl);have f16:=(KF.cell 19).trans (show _=some (.slice f.oa f.f.options.length f.oc) from rfl);have HB0:=Hd (aB w (.cells x.arr 30));obtain⟨res,hres⟩:∃res,res=bN x.f f.f:=⟨_,rfl⟩
 rw[←hres];unfold bN at hres;have HR:=Hd hres;clear hres KX KF hb;generalize x.arr=xc at *;generalize x.f.kind=k at *;generalize x.f.target=tg at *;generalize x.f.ins=xi at *;generalize x.f.day=xd at *;generalize x.f.choice=ch at *;generalize f.f.key=key at *;generalize f.f.ins=fi at *;generalize f.f.day=fd at *;generalize f.f.options.length=ol at *
 by_cases h1:k=11
 ·subst h1;cases h2:(tg==key) with
  |false =>
   have HV:Hid (res=false):=by show _=_;rw[HR.out,h2];simp
   go_enter Tryz.func95,Tryz.ntmps95;go_wp2;go_ret;exact⟨by rw[HV.out];rfl,HB0.out⟩
  |true =>
   cases h3:(xi==fi) with
   |false =>
    have HV:Hid (res=false):=by show _=_;rw[HR.out,h3];simp
    go_enter Tryz.func95,Tryz.ntmps95;go_wp2;go_ret;exact⟨by rw[HV.out];rfl,HB0.out⟩
   |true =>
    by_cases h4:xd≤fd
    ·by_cases h5:ch<(ol:Int)
     ·have HV:Hid (res=true):=by show _=_;rw[HR.out,h2,h3];simp[h4,h5]
      go_enter Tryz.func95,Tryz.ntmps95;go_wp2;go_ret;exact⟨by rw[HV.out];rfl,HB0.out⟩
     ·have HV:Hid (res=false):=by show _=_;rw[HR.out,h2,h3];simp[h5]
      go_enter Tryz.func95,Tryz.ntmps95;go_wp2;go_ret;exact⟨by rw[HV.out];rfl,HB0.out⟩
    ·have HV:Hid (res=false):=by show _=_;rw[HR.out,h2,h3];simp[h4]
     go_enter Tryz.func95,Tryz.ntmps95;go_wp2;go_ret;exact⟨by rw[HV.out];rfl,HB0.out⟩
 ·have h1':(k==11)=false:=by simpa using h1
  have HV:Hid (res=false):=by show _=_;rw[HR.out];simp[h1]
  go_enter Tryz.func95,Tryz.ntmps95;go_wp2;go_ret;exact⟨by rw[HV.out];rfl,HB0.out⟩
theorem Em(x:aF)(w:World):
  Calls Tryz.prog 48 #[.agg x.arr] w fun e w'=>e=.returned (.bool (decide (x.f.kind=10)))∧Below w.heap.size w w':=by
 have KX:=aP.new0 w x.arr 30;have x4:=(KX.cell 4).trans (show _=some (.int .i64 x.f.kind) from rfl);have HB0:=Hd (aB w (.cells x.arr 30));clear KX;generalize x.arr=xc at *;generalize x.f.kind=k at *
 by_cases h1:k=10
 ·subst h1;go_enter Tryz.func48,Tryz.ntmps48;go_wp2;go_ret;exact⟨rfl,HB0.out⟩
 ·have h1':(k==10)=false:=by simpa using h1
  have h1'':decide (k=10)=false:=by simpa using h1
  rw[h1''];go_enter Tryz.func48,Tryz.ntmps48;go_wp2;go_ret;exact⟨rfl,HB0.out⟩
theorem qZ(a:Option Addr)(n c:Nat)(gf:Nat)(lb:Array Value)(w:World):
  Calls Tryz.prog 45 #[.slice a n c,.func (.func gf) #[] lb] w fun e w'=>∃bl bi,e=.returned (.func (.func 74) #[] #[.pointer (some ⟨bl,0,none⟩),.pointer (some ⟨bi,0,none⟩)])∧w.heap.size≤bl∧w.heap.size≤bi∧aP w' bl #[.slice a n c] 22∧aP w' bi #[.func (.func gf) #[] lb] 62∧Below w.heap.size w w':=by
 go_enter Tryz.func45,Tryz.ntmps45;go_wp2;go_ret;refine⟨w.heap.size,w.heap.size+1,rfl,Nl _,Nat.le_succ _,(aP.new0 w _ _).below (aB _ _),?_,((Br _ _).alloc (Nl _) _).alloc (by simp) _⟩;have h:=aP.new0 (w.alloc (.cells #[.slice a n c] 22)) #[.func (.func gf) #[] lb] 62;rw[World.size_alloc] at h;exact h
def Lu(x:aF):Array Value:=#[.agg x.arr]
structure Ow(W:World)(xs:List aF)(a:Option Addr)(c bl bi gf:Nat)(lb:Array Value)(p:aE→Bool):Prop where
 facts:fS W a xs
 kl:aP W bl #[.slice a xs.length c] 22
 ki:aP W bi #[.func (.func gf) #[] lb] 62
 tells:∀x,x∈xs→∀W',Below W.heap.size W W'→Calls Tryz.prog gf (#[.agg x.arr]++lb) W' fun e w'=>e=.returned (.bool (p x.f))∧Below W'.heap.size W' w'
def eF(xs:List aF)(p:aE→Bool)(k:Nat):List aF:=(xs.drop k).filter fun x=>p x.f
theorem Wj{xs:List aF}{p:aE→Bool}{k:Nat}{x:aF}(h:xs[k]?=some x):eF xs p k=if p x.f=true then x::eF xs p (k+1) else eF xs p (k+1):=by
 obtain⟨hl,he⟩:=Li.1 h;unfold eF;rw[List.drop_eq_getElem_cons hl,he,List.filter_cons]
attribute [local go_sem] Oper.semAt_some
theorem Pc(n:Nat)(l:Nat)(xs:List aF)(a:Option Addr)(c bl bi gf:Nat)(lb:Array Value)(p:aE→Bool)(J Jx:List aF→World→Prop)(S:World→Prop)(Kp:World→World→Prop)(W:World)(hn:xs.length≤1000000)
  (eg:∀args w,(callFunc gf args).run Tryz.prog w=.ok (.enter gf args) w)
  (hY:∀pre (x:aF) W,J pre W→pre.length<xs.length→YieldAt Fence.wide (n-1) Tryz.prog l (Lu x) W fun e W'=>(e=.returned (.bool true)∧J (pre ++ [x]) W'∧Kp W W')∨(e=.returned (.bool false)∧Jx (pre ++ [x]) W'))
  (hJg:∀pre A B,J pre A→Below A.heap.size A B→J pre B) (hS1:∀W,S W→Ow W xs a c bl bi gf lb p) (hS2:∀A B,S A→Below A.heap.size A B→S B) (hS3:∀A B,S A→Kp A B→S B) (h0:J [] W) (hs0:S W) :
  CallsIn Fence.wide n Tryz.prog 74 #[.func (.yield l) #[] #[],.pointer (some ⟨bl,0,none⟩),.pointer (some ⟨bi,0,none⟩)] W fun e W'=>(∃v,e=.returned v)∧(J (eF xs p 0) W'∨∃pre x r,eF xs p 0=pre++x::r∧Jx (pre ++ [x]) W'):=by
 have HY:=Hd hY;have HJG:=Hd hJg;have HS1:=Hd hS1;have HSB:=Hd hS2;have HSK:=Hd hS3;have H0:=Hd h0;have HSS:=Hd hs0;have k1:=(hS1 _ hs0).kl.cell 0;clear hY hJg hS1 hS2 hS3 h0 hs0;refine callsIn_of_wp Tryz.func74 rfl trivial ?_ rfl;simp only[Tryz.ntmps74,List.size_toArray,List.length_cons,List.length_nil,Nat.reduceAdd,Nat.reduceSub,Array.replicate_succ,Array.replicate_zero,List.push_toArray,List.append_toArray,List.nil_append,List.cons_append];gi_wp2;gi_loopw [8] (fun iv wr=>∃(k:Nat) (pre:List aF),k≤xs.length∧iv=.int .i64 k∧Hid (pre.length≤k)∧Hid (eF xs p 0=pre++eF xs p k)∧Hid (J pre wr)∧Hid (S wr)) (fun iv _=>xs.length-(intOf iv).toNat)
 case atStart=>exact⟨0,[],Nat.zero_le _,rfl,Nl _,rfl,H0,HSS⟩
 case round =>
  obtain⟨k,pre,hk,rfl,hpl,HS,HJ,HB⟩:=hrel;clear k1 H0 HSS;have HW:=Hd (HS1.out _ HB.out)
  by_cases hlt:k<xs.length
  ·obtain⟨x,hx⟩:∃x,xs[k]?=some x:=⟨xs[k],Lg hlt⟩
   obtain⟨b,off,rfl,_,hc⟩:=HW.out.facts.1.addr (k:=k) (cs:=x.cells) (by rw[List.getElem?_map,hx];rfl);have HC:Hid (∀j v,x.arr.toList[j]?=some v→wr.cell? ⟨b,off+k*21+j,none⟩=some v):=hc;have k1:=HW.out.kl.cell 0;have HSZ:Hid ((Tryz.prog.info? 30).map (·.size)=some x.arr.size):=aY x.f x.pa x.oa x.pc x.oc;have HONE:=Hd (dV x);have hsz21:x.arr.size=21:=rfl;have HS2:=Hd (HS.out.trans (by rw[Wj hx]));have HT:=Hd (HW.out.tells x (List.mem_of_getElem? hx));have HENC:Hid (Lu x=#[.agg x.arr]):=rfl;generalize hfc:x.arr=fc at *;have HBa:Hid (Below wr.heap.size wr (wr.alloc (.cells eS 30))):=aB _ _;have HS21:Hid (eS.size=fc.size):=hsz21.symm;have HNEW:=Hd (heap_alloc_new wr (.cells eS 30));clear hsz21 HS hc;gi_wp2_with (first|(refine uP (by rfl) 30 _ rfl b (off+k*21) rfl fc _ HC.out Tryz.underlying30 rfl HSZ.out ?_)|(refine bQ (by rfl) 30 _ _ rfl wr.heap.size rfl fc rfl HNEW.out HSZ.out HS21.out HONE.out ?_;intro w1 kb b1 _ _ _;have KBr:=Hd kb;have hb1:=HBa.out.trans (b1 _ (Nl _));have HBr:=Hd hb1;have HSr:=Hd (HSB.out _ _ HB.out hb1);have HJr:=Hd (HJG.out _ _ _ HJ.out hb1);have k2:=(HS1.out _ HSr.out).ki.cell 0;clear kb b1 hb1 HJ)|(refine eP (by rfl) 30 _ rfl wr.heap.size rfl fc _ KBr.out Tryz.underlying30 rfl HSZ.out ?_));refine⟨trivial,fun h=>absurd h (by decide),(callsIn_wide.2 (HT.out _ HBr.out)).mono ?_⟩;rintro e w2 ⟨rfl,hb2⟩;have HB2:=Hd (HSB.out _ _ HSr.out hb2);have HJ2:=Hd (HJG.out _ _ _ HJr.out hb2);have KB2:=Hd (KBr.out.below hb2);clear hb2 HBr HJr KBr HNEW HS21 HONE k2 HT HC;cases hpx:p x.f with
   |false =>
    have HS3:Hid (eF xs p 0=pre++eF xs p (k+1)):=by show _=_;rw[HS2.out,if_neg (by rw[hpx];decide)]
    clear hpx HS2;gi_wp2;refine⟨fun f h=>(by cases h),?_⟩;gi_wp2;go_roundw
    case rel=>exact⟨k+1,pre,by omega,by go_num,Nat.le_succ_of_le hpl.out,HS3,HJ2,HB2⟩
    case measure=>simp[intOf];omega
   |true =>
    have HS3:Hid (eF xs p 0=(pre ++ [x])++eF xs p (k+1)):=by show _=_;rw[HS2.out,if_pos hpx];simp
    clear hpx HS2;obtain⟨fn,tmps,assign,body,hy,hRd⟩:=HY.out pre x w2 HJ2.out (Nat.lt_of_le_of_lt hpl.out hlt);rw[HENC.out] at hy;gi_wp2_with (refine eP (by rfl) 30 _ rfl wr.heap.size rfl fc _ KB2.out Tryz.underlying30 rfl HSZ.out ?_);refine⟨fun h=>absurd h (by decide),hRd.mono ?_⟩;rintro e W3 (⟨rfl,hJ3,hk3⟩|⟨rfl,hJx3⟩)
    ·have HB3:=Hd (HSK.out _ _ HB2.out hk3);have HJ3:=Hd hJ3;clear hJ3 hk3 hy hRd HJ2 HB2 KB2;gi_wp2;go_roundw
     case rel=>exact⟨k+1,pre ++ [x],by omega,by go_num,by show _≤_;rw[List.length_append];exact Nat.succ_le_succ hpl.out,HS3,HJ3,HB3⟩
     case measure=>simp[intOf];omega
    ·have HJ3:=Hd hJx3;clear hJx3 hy hRd HJ2 HB2 KB2;gi_wp2;refine bodyPost_ret (results_none rfl _ _ _) rfl ?_;exact⟨⟨_,rfl⟩,.inr ⟨pre,x,eF xs p (k+1),by rw[HS3.out];simp,HJ3.out⟩⟩
  ·obtain rfl:k=xs.length:=by omega
   have HE:Hid (eF xs p 0=pre):=by show _=_;rw[HS.out];unfold eF;rw[List.drop_eq_nil_of_le (Nl _)];simp
   have k1:=HW.out.kl.cell 0;clear HS;gi_wp2;go_end0;exact⟨⟨_,rfl⟩,.inl (by rw[HE.out];exact HJ.out)⟩
end
section
open Go Go.RowKit Go.Shelf Num
theorem fX{P:Program}{fn:Func}{p u:Tmp}{ty:TypeId}(h:fn.results=#[.cell p ty,.tmp u])(tmps:Array Value)(w:World)(g:Nat)(t:TypeId)(cs:Array Value)(fr:Nat×Nat)(d:TypeDesc)
  (hp:tmps.getD p undef=.pointer (some ⟨g,0,none⟩)) (hg:w.heap[g]?=some (.cells cs t fr))
  (hu:P.underlying ty=some d) (hd:(match d with | .struct _ | .array _ _=>true|_=>false)=true) (hi:(P.info? ty).map (·.size)=some cs.size) :
  (results fn tmps).run P w=.ok (.tuple #[.agg cs,tmps.getD u undef]) w:=by
 have hp':tmps[p]?.getD undef=.pointer (some ⟨g,0,none⟩):=by simpa using hp
 simp[results,h,hp',asAddr,run_loadVar_row w g t ty cs fr d hg hu hd hi]
def eE(l:List aF):Array Value:=match l.getLast? with
 |some x=>x.arr
 |none=>eS
theorem Ea(l:List aF)(x:aF):eE (l ++ [x])=x.arr:=by simp[eE]
theorem jG(l:List aF):(eE l).size=21:=by
 unfold eE;split
 ·rfl
 ·rfl
theorem gO(l:List aF):(eE l).all (·.oneCell')=true:=by
 unfold eE;split
 ·exact dV _
 ·simp[eS,Value.oneCell']
theorem eA:(Tryz.prog.info? 30).map (·.size)=some 21:=by kernel_rfl
theorem nP{β:Type}(B:Nat)(t:TypeId)(f:β→Array Value):Own (fun s W=>aP W B (f s) t):=fun s X Y row hs hg hrow=>by
 refine⟨Nat.lt_of_lt_of_le hs.1 hg.size,(hg.block B hs.1 fun e=>?_).trans hs.2⟩;obtain⟨o,ho,hc⟩:=hrow B e.symm;rw[hs.2] at ho;cases ho;cases hc
theorem pM{W:World}{b b':Nat}{cs cs':Array Value}{t:TypeId}(h:aP W b cs t)(hne:b≠b'):aP (W.setRow b' cs') b cs t :=
 ⟨by simp[World.setRow];exact h.1,(setRow_other W b' b cs' hne).trans h.2⟩
theorem Ip{W:World}{b:Nat}{cs cs':Array Value}{t:TypeId}(h:aP W b cs t):aP (W.setRow b cs') b cs' t :=
 ⟨by simp[World.setRow];exact h.1,setRow_heap _ _ _ _ _ _ h.2⟩
theorem Boxed.box{W:World}{b:Nat}{t:TypeId}{v:Value}(h:Boxed W b t v):aP W b #[v] t:=⟨h.lt,h⟩
theorem aP.boxed{W:World}{b:Nat}{t:TypeId}{v:Value}(h:aP W b #[v] t):Boxed W b t v:=h.2
theorem xK{W:World}{b b':Nat}{cs:Array Value}{v:Value}{t:TypeId}(h:aP W b cs t)(hne:b≠b'):aP (W.setCell ⟨b',0,none⟩ v) b cs t :=
 ⟨Nat.lt_of_lt_of_le h.1 (grownBy_setCell' W b' v).size,((grownBy_setCell' W b' v).block b h.1 (fun e=>hne (by cases e;rfl))).trans h.2⟩
theorem xL{W W':World}(h:Below W.heap.size W W'):KeepsOthers W W':=⟨h.size,fun k _ hk _=>(h.block k (Ai.1 hk).1).trans hk⟩
structure eK(P:Nat→Prop)(A B:World):Prop where
 os:B.os=A.os
 tape:B.tape=A.tape
 output:B.output=A.output
 size:A.heap.size≤B.heap.size
 block:∀k,P k→B.heap[k]?=A.heap[k]?
theorem eK.trans{P:Nat→Prop}{A B C:World}(h:eK P A B)(g:eK P B C):eK P A C:=⟨g.os.trans h.os,g.tape.trans h.tape,g.output.trans h.output,Nat.le_trans h.size g.size,fun k hk=>(g.block k hk).trans (h.block k hk)⟩
theorem eK.of_below{P:Nat→Prop}{n:Nat}{A B:World}(h:Below n A B)(hp:∀k,P k→k<n):eK P A B:=⟨h.os,h.tape,h.output,h.size,fun k hk=>h.block k (hp k hk)⟩
theorem eK.below{P:Nat→Prop}{n:Nat}{A B:World}(h:eK P A B)(hp:∀k,k<n→P k):Below n A B:=⟨h.os,h.tape,h.output,h.size,fun k hk=>h.block k (hp k hk)⟩
theorem eK.box{P:Nat→Prop}{A B:World}(h:eK P A B){b:Nat}{cs:Array Value}{T:TypeId}(hp:P b)(hb:aP A b cs T):aP B b cs T:=⟨Nat.lt_of_lt_of_le hb.1 h.size,(h.block b hp).trans hb.2⟩
theorem eK.refl(P:Nat→Prop)(A:World):eK P A A:=⟨rfl,rfl,rfl,Nl _,fun _ _=>rfl⟩
theorem eK.putObj{P:Nat→Prop}(W:World)(l:Nat)(o':Obj)(hp:¬ P l):eK P W (W.putObj l o'):=by
 have g:=grownBy_putObj' W l o';exact⟨g.os,g.tape,g.output,g.size,fun k hk=>by
  rcases Nat.lt_or_ge k W.heap.size with h|h
  ·exact g.block k h (fun e=>hp (by cases e;exact hk))
  ·have:(W.putObj l o').heap.size=W.heap.size:=by simp[World.putObj]
   rw[Array.getElem?_eq_none h,Array.getElem?_eq_none (by omega)]⟩
theorem eK.setRow{P:Nat→Prop}{A W:World}(h:eK P A W){b:Nat}(hp:¬ P b)(cs:Array Value):eK P A (W.setRow b cs) :=
 ⟨h.os,h.tape,h.output,by simp[World.setRow];exact h.size,fun k hk=>(setRow_other W b k cs (fun e=>hp (e ▸ hk))).trans (h.block k hk)⟩
theorem eK.setCell{P:Nat→Prop}{A W:World}(h:eK P A W){b:Nat}(hp:¬ P b)(v:Value):eK P A (W.setCell ⟨b,0,none⟩ v) :=
 have g:=grownBy_setCell' W b v
 ⟨g.os.trans h.os,g.tape.trans h.tape,g.output.trans h.output,Nat.le_trans h.size g.size,fun k hk=>by
  rcases Nat.lt_or_ge k W.heap.size with hl|hl
  ·exact(g.block k hl (fun e=>hp (by cases e;exact hk))).trans (h.block k hk)
  ·have hs:(W.setCell ⟨b,0,none⟩ v).heap.size=W.heap.size:=by simp[World.setCell]
   have:=h.block k hk;rw[Array.getElem?_eq_none (by omega)] at this ⊢;exact this⟩
theorem eK.of_grown{P:Nat→Prop}{A B:World}{b:Nat}(g:A.grownBy B (some b))(hb:¬ P b)(hP:∀k,P k→k<A.heap.size):eK P A B:=⟨g.os,g.tape,g.output,g.size,fun k hk=>g.block k (hP k hk) (fun e=>hb (by cases e;exact hk))⟩
theorem Bi{P:Program}{o:Oper}{a:Act}{w:World}{ty:TypeId}{x y:Operand}(ho:o.op=.store ty x y){g:Nat}(hx:a.eval x=.pointer (some ⟨g,0,none⟩)){cells:Array Value}(hy:a.eval y=.agg cells)
  {t:TypeId}{old:Array Value}(hg:aP w g old t) (hi:(P.info? ty).map (·.size)=some cells.size) (hold:old.size=cells.size) (h1:cells.all (·.oneCell')=true):(execOp a.eval o).run P w=.ok .skip (w.setRow g cells):=by
 unfold execOp;simp only[ho,hx,hy,Instr.storeAt,Instr.sureAddr,Sem.run_bind,Sem.run_pure,Result.andThen_ok,run_storeVar_row w g t ty old cells hg.2 hi hold h1]
noncomputable def aAk:Array Oper:=(Tryz.f39.body.bind (jE 6)).getD #[]
def Xp:List (Nat×Nat):=[(0,15),(1,16),(3,5)]
structure Rx where
 W0:World
 b4:Nat
 b6:Nat
 b7:Nat
 arr:Array Value
 bb:Bool
def Rx.val(C:Rx)(_:Unit):Nat→Value
 |0=>.agg C.arr
 |_=>.bool C.bb
def Rx.g(C:Rx)(_:Unit)(l:Array Bool)(W:World):Prop:=(¬ lP l 2∧W=C.W0)∨(lP l 2∧W=C.W0.setRow C.b4 C.arr)
structure LaM(C:Rx)(t0:Array Value):Prop where
 sz:t0.size=17
 t4:t0[4]?=some (.pointer (some ⟨C.b4,0,none⟩))
 t6:t0[6]?=some (.pointer (some ⟨C.b6,0,none⟩))
 t7:t0[7]?=some (.pointer (some ⟨C.b7,0,none⟩))
 k4:aP C.W0 C.b4 eS 30
 k6:aP C.W0 C.b6 C.arr 30
 k7:aP C.W0 C.b7 #[.bool C.bb] 4
 n6:C.b6≠C.b4
 n7:C.b7≠C.b4
 asz:C.arr.size=21
 one:C.arr.all (·.oneCell')=true
section
variable {C:Rx}{t0:Array Value}{d0:List Deferred}{Q:Exit→Act→World→Prop}{l:Array Bool}{w:World}{n:Nat}
theorem Rx.keep{i:Nat}(hi:i≠2)(h:C.g () l w):C.g () (l.setIfInBounds i true) w:=by
 rcases h with⟨h,e⟩|⟨h,e⟩
 ·exact .inl ⟨fun h'=>h (mQ h' (Ne.symm hi)),e⟩
 ·exact .inr ⟨fH h,e⟩
theorem Rx.boxes(M:LaM C t0)(h:C.g () l w):aP w C.b6 C.arr 30∧aP w C.b7 #[.bool C.bb] 4:=by
 rcases h with⟨_,rfl⟩|⟨_,rfl⟩
 ·exact⟨M.k6,M.k7⟩
 ·exact⟨pM M.k6 M.n6,pM M.k7 M.n7⟩
theorem Hb(M:LaM C t0){a:Act}(hdf:a.defers=d0)(ht:a.tmps=t0)(hw:w.drewN 1=C.W0)
  (hQ:Q .normal { tmps:=iZ (C.val ()) Xp t0,defers:=d0 } (C.W0.setRow C.b4 C.arr)):(Code.region 6 aAk true).wpIn Fence.wide n Tryz.prog Q a w:=by
 have hsz:aAk.size=4:=by kernel_rfl
 refine Bq (ds:=Xp) (val:=C.val) (G:=C.g) (by kernel_rfl) (by kernel_rfl) (by decide) (fun p hp=>?_) (by kernel_rfl) ?_ (γ:=()) hdf ht (.inl ⟨Gu _ _,hw⟩) ?_
 ·rw[M.sz];have:∀p,p∈Xp→p.2<17:=by decide
  exact this p hp
 ·intro γ l a w i H hr;cases γ;have hi:i<4:=by
   obtain⟨_,o,ho,_⟩:=mem_ready.1 hr;have:=(Ai.1 ho).1;rw[hsz] at this;exact this
  have t4:=H.low (s:=4) (by decide) M.t4;have t6:=H.low (s:=6) (by decide) M.t6;have t7:=H.low (s:=7) (by decide) M.t7;have hbx:=Rx.boxes M H.g
  match i,hi,hr with
  |0,_,hr=>exact sQ (X:=.load 30 (.tmp 6)) (by kernel_rfl) (fun o h=>aW h (oC t6) (gR hbx.1) Tryz.underlying30 rfl (by rw[M.asz];exact eA)) (fun _ _=>rfl) (Rx.keep (by decide) H.g)
  |1,_,hr =>
   have hc:=hbx.2.cell 0;exact sQ (X:=.load 4 (.tmp 7)) (v:=.bool C.bb) (by kernel_rfl) (fun o h=>by simp[execOp,h,t7,hc,go_sem]) (fun _ _=>rfl) (Rx.keep (by decide) H.g)
  |2,_,hr =>
   have v0:a.tmps[15]?=some (.agg C.arr):=H.dep hr 0 15 (by kernel_rfl) ⟨rfl,by decide⟩;have hw:w=C.W0:=by
    rcases H.g with⟨_,e⟩|⟨h,_⟩
    ·exact e
    ·exact absurd h (lZ (mem_ready.1 hr).1)
   subst hw;exact Ia (X:=.store 30 (.tmp 4) (.tmp 15)) (by kernel_rfl) (fun o h=>Bi h (oC t4) (oC v0) M.k4 (by rw[M.asz];exact eA) (by rw[M.asz];rfl) M.one) (.inr ⟨zE (by rw[H.sz,hsz];decide),rfl⟩)
  |3,_,hr =>
   have v0:a.tmps[16]?=some (.bool C.bb):=H.dep hr 1 16 (by kernel_rfl) ⟨rfl,by decide⟩;exact sQ (X:=.assign (.tmp 16)) (v:=.bool C.bb) (by kernel_rfl) (fun o h=>by simp[execOp,h,v0,go_sem]) (fun _ _=>rfl) (Rx.keep (by decide) H.g)
  |n+4,h,_=>exact absurd h (by omega)
 ·rintro⟨⟩ l W hall hg;rcases hg with⟨h,_⟩|⟨_,rfl⟩
  ·exact absurd (hall 2 (by rw[hsz];decide)) h
  ·exact hQ
end
end
section
open Go Go.RowKit Go.Shelf Num
theorem nK(n:Nat)(xs:List aF)(a:Option Addr)(c bl bi gf:Nat)(lb:Array Value)(p:aE→Bool)(P:Nat→Prop)(w:World)(hn:xs.length≤1000000)(eg:∀args w,(callFunc gf args).run Tryz.prog w=.ok (.enter gf args) w)
  (hP:∀k,P k→k<w.heap.size) (hS:∀W,eK P w W→Ow W xs a c bl bi gf lb p) :
  SeqStopsK Fence.wide n Tryz.prog 74 #[.pointer (some ⟨bl,0,none⟩),.pointer (some ⟨bi,0,none⟩)] Lu (eK P) (fun ys=>ys=eF xs p 0) (fun q=>∃r x s,eF xs p 0=r++x::s∧q=r ++ [x]) xs.length w:=by
 intro l J Jx W hW hJ hJx hY h0;refine(Pc n l xs a c bl bi gf lb p J Jx (eK P w) (eK P) W hn eg hY (fun pre A B hj hb=>hJ pre A _ none hj (gZ hb) (fun r e=>by cases e)) hS (fun A B hA hb=>hA.trans (eK.of_below hb fun k hk=>Nat.lt_of_lt_of_le (hP k hk) hA.size)) (fun A B hA hb=>hA.trans hb) h0 (eK.of_below hW hP)).mono ?_;rintro e W' ⟨hv,h|⟨pre,x,r,h,hx⟩⟩
 ·exact⟨hv,.inl ⟨_,rfl,h⟩⟩
 ·exact⟨hv,.inr ⟨_,⟨pre,x,r,h,rfl⟩,hx⟩⟩
attribute [local go_sem] Oper.semAt_some
theorem He(xs:List aF)(a:Option Addr)(c:Nat)(f:aF)(w:World)(hn:xs.length≤1000000)(hr:fS w a xs):
  Calls Tryz.prog 39 #[.slice a xs.length c,.agg f.arr] w fun e w'=>e=.returned (.tuple #[.agg (eE (eF xs (fun y=>bN y f.f) 0)),.bool (!(eF xs (fun y=>bN y f.f) 0).isEmpty)])∧Below w.heap.size w w':=by
 have HR:=Hd hr;have HSZ:Hid ((Tryz.prog.info? 30).map (·.size)=some f.arr.size):=aY f.f f.pa f.oa f.pc f.oc;have HOF:Hid (∀(x:aF) (bf:Nat) (W:World),aP W bf f.arr 30→Calls Tryz.prog 95 #[.agg x.arr,.pointer (some ⟨bf,0,none⟩)] W fun e w'=>e=.returned (.bool ((fun y=>bN y f.f) x.f))∧Below W.heap.size W w'):=fun x bf W h=>Xl x f bf W h
 generalize(fun y=>bN y f.f)=p at *;generalize f.arr=fc at *;clear hr;refine(callsIn_wide (n:=6)).1 ?_;refine callsIn_of_wp_marks Tryz.func39 rfl trivial ?_ rfl;simp only[Tryz.ntmps39,List.size_toArray,List.length_cons,List.length_nil,Nat.reduceAdd,Nat.reduceSub,Array.replicate_succ,Array.replicate_zero,List.push_toArray,List.append_toArray,List.nil_append,List.cons_append];have b1:=aB w (.cells fc 30);have b2:=aB (w.alloc (.cells fc 30)) (.cells eS 30);have b3:=aB ((w.alloc (.cells fc 30)).alloc (.cells eS 30)) (.cells eS 30);have b4:=aB (((w.alloc (.cells fc 30)).alloc (.cells eS 30)).alloc (.cells eS 30)) (.cells #[.bool false] 4);have KF:=Hd ((((aP.new0 w fc 30).below b2).below b3).below b4);have KR:=((aP.new0 (w.alloc (.cells fc 30)) eS 30).below b3).below b4;have KO:=(aP.new0 ((w.alloc (.cells fc 30)).alloc (.cells eS 30)) eS 30).below b4;have KB:=aP.new0 (((w.alloc (.cells fc 30)).alloc (.cells eS 30)).alloc (.cells eS 30)) #[.bool false] 4;have HB4:=Hd (aA (aA (aA b1 b2) b3) b4);have s4:((((w.alloc (.cells fc 30)).alloc (.cells eS 30)).alloc (.cells eS 30)).alloc (.cells #[.bool false] 4)).heap.size=w.heap.size+1+1+1+1:=by simp only[World.size_alloc]
 rw[World.size_alloc] at KR;rw[World.size_alloc,World.size_alloc] at KO;rw[World.size_alloc,World.size_alloc,World.size_alloc] at KB;have KR:=Hd KR;have KO:=Hd KO;have KB:=Hd KB;have S4:=Hd s4;clear b1 b2 b3 b4 s4;gi_wp2_with (refine eP (by rfl) 30 _ rfl w.heap.size rfl fc _ KF.out Tryz.underlying30 rfl HSZ.out ?_);refine⟨trivial,(callsIn_wide.2 (aAv _ _)).mono ?_⟩;rintro e w1 ⟨bf,rfl,lbf,kbf,hb1⟩;have S1:Hid (w.heap.size+1+1+1+1≤w1.heap.size∧w.heap.size+1+1+1+1≤bf):=⟨by rw[←S4.out];exact hb1.size,by rw[←S4.out];exact lbf⟩
 have KR:=Hd (KR.out.below hb1);have KO:=Hd (KO.out.below hb1);have KB:=Hd (KB.out.below hb1);have HB1:=Hd (aA HB4.out hb1);have KBF:=Hd kbf;clear lbf kbf hb1 S4 HB4 KF;gi_wp2_with fail;refine⟨trivial,(callsIn_wide.2 (qZ _ _ _ _ _ _)).mono ?_⟩;rintro e w2 ⟨bl,bi,rfl,lbl,lbi,kbl,kbi,hb2⟩;have KR:=Hd (KR.out.below hb2);have KO:=Hd (KO.out.below hb2);have KB:=Hd (KB.out.below hb2);have KBF:=Hd (KBF.out.below hb2);have HB2:=Hd (aA HB1.out hb2);have HW2:Hid (w.heap.size+1+1+1+1≤w2.heap.size∧w.heap.size+1+1+1+1≤bl∧w.heap.size+1+1+1+1≤bi∧w.heap.size+1+1+1+1≤bf):=by have h1:=S1.out;have h2:=hb2.size;show _∧_;omega
 have KBL:=Hd kbl;have KBI:=Hd kbi;clear lbl lbi kbl kbi hb2 S1 HB1;obtain⟨P,hP⟩:∃P:Nat→Prop,P=fun k=>k<w2.heap.size∧k≠w.heap.size+1+1∧k≠w.heap.size+1+1+1:=⟨_,rfl⟩
 have HPP:Hid (∀k,P k↔k<w2.heap.size∧k≠w.heap.size+1+1∧k≠w.heap.size+1+1+1):=fun k=>by rw[hP]
 clear hP;have hg:=nK 5 xs a c bl bi 95 #[.pointer (some ⟨bf,0,none⟩)] p P w2 hn (enters_of Tryz.func95 (by kernel_rfl) rfl) (fun k hk=>((HPP.out k).1 hk).1) (fun W hW=>by
  have h2:=HW2.out;have hbf:=hW.box ((HPP.out bf).2 ⟨KBF.out.1,by omega,by omega⟩) KBF.out;exact⟨HR.out.below (HB2.out.trans (hW.below fun k hk=>(HPP.out k).2 ⟨by omega,by omega,by omega⟩)),hW.box ((HPP.out bl).2 ⟨KBL.out.1,by omega,by omega⟩) KBL.out,hW.box ((HPP.out bi).2 ⟨KBI.out.1,by omega,by omega⟩) KBI.out,fun x _ W' hW'=>HOF.out x bf W' (hbf.below hW')⟩)
 have HG:=Hd hg;clear hg HOF HR KBF KBL KBI;gi_wp2_with fail;refine wpIn_rangeFunc_ownH (F:=Fence.wide) rfl (by decide) (gf:=74) (lb:=#[.pointer (some ⟨bl,0,none⟩),.pointer (some ⟨bi,0,none⟩)]) rfl trivial (enters_of Tryz.func74 (by kernel_rfl) rfl) HG.out
  (fun h k=>h.trans k) (fun W l o o' hl _ _ _=>eK.putObj W l o' fun hp=>absurd ((HPP.out l).1 hp).1 (by omega)) (Br _ _) (fun _=>rfl)
  (fun pre W=>(aP W (w.heap.size+1+1) (eE pre) 30∧aP W (w.heap.size+1+1+1) #[.bool (!pre.isEmpty)] 4∧aP W (w.heap.size+1) eS 30)∧(Below w.heap.size w W∧w2.heap.size≤W.heap.size))
  (fun _ _ _=>False)
  (OwnFrom.and (Own.from (fun s A B row hs hg hr=>⟨nP _ _ eE s A B row hs.1 hg hr,nP _ _ (fun pre:List aF=>#[.bool (!pre.isEmpty)]) s A B row hs.2.1 hg hr,nP _ _ (fun _=>eS) s A B row hs.2.2 hg hr⟩) _) (OwnFrom.and (ownFrom_below (Nl _) (by have:=HW2.out;omega)) (fun _ A B row hs hg _=>Nat.le_trans hs hg.size)))
  (fun _ _ _ _ _ hs _ _=>hs)
  ⟨⟨KO.out,KB.out,KR.out⟩,HB2.out,Nl _⟩
  (fun x a' W=>∃Bx,w2.heap.size≤Bx∧aP W Bx x.arr 30∧a' = { tmps:=#[.slice a xs.length c,.agg fc,undef,.pointer (some ⟨w.heap.size,0,none⟩),.pointer (some ⟨w.heap.size+1,0,none⟩),.bool false,.pointer (some ⟨w.heap.size+1+1,0,none⟩),.pointer (some ⟨w.heap.size+1+1+1,0,none⟩),.pointer (some ⟨Bx,0,none⟩),.slice a xs.length c,.agg fc,.func (.func 95) #[] #[.pointer (some ⟨bf,0,none⟩)],.func (.func 74) #[] #[.pointer (some ⟨bl,0,none⟩),.pointer (some ⟨bi,0,none⟩)],.agg x.arr,undef,undef,undef],defers:=[] })
  (fun x a' _ A B row hs hg hr=>by obtain⟨Bx,h1,h2,h3⟩:=hs;exact⟨Bx,h1,nP Bx _ (fun (_:Unit)=>x.arr) () A B row h2 hg (fun r e=>(hr r e).2),h3⟩)
  ?assign ?body ?done ?stop
 case assign =>
  rintro l pre x W K ⟨⟨k6,k7,k4⟩,hB,hsz⟩ hK;have HN:=Hd (heap_alloc_new W (.cells eS 30));have HBa:=aB W (.cells eS 30);have K6:=Hd (k6.below HBa);have K7:=Hd (k7.below HBa);have K4:=Hd (k4.below HBa);have l6:=k6.1;have l7:=k7.1;have l4:=k4.1;have HKA:=Hd (KeepsOthers.alloc W (.cells eS 30));have HBA:=Hd HBa;have HB:=Hd hB;have HSX:Hid ((Tryz.prog.info? 30).map (·.size)=some x.arr.size):=aY x.f x.pa x.oa x.pc x.oc;have HS21:Hid (eS.size=x.arr.size):=rfl;have HONE:=Hd (dV x);have HKK:=Hd hK;unfold Lu;clear k6 k7 k4 hB HBa hK;gi_wp2_with (refine bQ (by rfl) 30 _ _ rfl W.heap.size rfl x.arr rfl HN.out HSX.out HS21.out HONE.out ?_;intro w4 kx bx ko kot _);have hb4:=HBA.out.trans (bx _ (Nl _));exact HKK.out _ _ ((HKA.out.trans ko).from _) (eK.of_below hb4 (fun k hk=>Nat.lt_of_lt_of_le ((HPP.out k).1 hk).1 hsz)) ⟨⟨kot _ _ _ (by omega) K6.out,kot _ _ _ (by omega) K7.out,kot _ _ _ (by omega) K4.out⟩,aA HB.out hb4,Nat.le_trans hsz hb4.size⟩ ⟨W.heap.size,hsz,kx,rfl⟩
 case body =>
  rintro l pre x a' W hl ⟨r,hr⟩ ⟨⟨k6,k7,k4⟩,hB,hsz⟩ ⟨Bx,hBx,kX,rfl⟩ hlt;have l6:=k6.1;have l7:=k7.1;have h2:=HW2.out;have n1:w.heap.size+1+1+1≠w.heap.size+1+1:=by omega
  have n2:w.heap.size+1≠w.heap.size+1+1:=by omega
  have n3:w.heap.size+1≠w.heap.size+1+1+1:=by omega
  have HK6:=Hd k6;have HK7:=Hd k7;have HK4:=Hd k4;have HKX:=Hd kX;have HB:=Hd hB;have HSX:Hid ((Tryz.prog.info? 30).map (·.size)=some x.arr.size):=aY x.f x.pa x.oa x.pc x.oc;have HS21:Hid ((eE pre).size=x.arr.size):=jG pre;have HONE:=Hd (dV x);clear k6 k7 k4 hB hr h2 hBx kX;gi_wp2_with (first|(refine eP (by rfl) 30 _ rfl Bx rfl x.arr _ HKX.out Tryz.underlying30 rfl HSX.out ?_)|(refine bQ (by rfl) 30 _ _ rfl (w.heap.size+1+1) rfl x.arr rfl HK6.out.2 HSX.out HS21.out HONE.out ?_;intro w4 kx bx ko kot gr;have HKX4:=Hd kx;have HBX4:=Hd bx;have HKO4:=Hd ko;have HKOT:=Hd kot;have HGR:=Hd gr;have c7:=(kot _ _ _ n1 HK7.out).cell 0;have f7:=Boxed.frozen (aP.boxed (kot _ _ _ n1 HK7.out));clear kx bx ko kot gr));have h2:=HW2.out;have hP1:∀k,P k→k<W.heap.size:=fun k hk=>Nat.lt_of_lt_of_le ((HPP.out k).1 hk).1 hsz
  have hP2:¬ P (w.heap.size+1+1):=fun hp=>((HPP.out _).1 hp).2.1 rfl
  have hP3:¬ P (w.heap.size+1+1+1):=fun hp=>((HPP.out _).1 hp).2.2 rfl
  have hk4:=eK.of_grown HGR.out hP2 hP1;have hb4:Below w.heap.size W w4:=HBX4.out _ (by omega);have hb5:=hb4.setCell (p:=⟨w.heap.size+1+1+1,0,none⟩) (by simp;omega) (.bool true);exact⟨(HKO4.out.trans (KeepsOthers.setCell _ _ _)).from _,hk4.setCell hP3 _,⟨⟨by rw[Ea];exact xK HKX4.out (by omega),by have:=Boxed.box (Boxed.set (.bool true) (aP.boxed (HKOT.out _ _ _ n1 HK7.out)));rw[show (!(pre ++ [x]).isEmpty)=true by simp];exact this,xK (HKOT.out _ _ _ n2 HK4.out) n3⟩,HB.out.trans hb5,Nat.le_trans hsz hb5.size⟩⟩
 case done =>
  rintro D ys W hD rfl ⟨⟨k6,k7,k4⟩,hB,hsz⟩ hK;have h2:=HW2.out;have hD1:D≠w.heap.size+1:=by omega
  have HK:=Hd hK;have HB:=Hd hB;have HHD:=Hd hD;have M:LaM ⟨W.drewN 1,w.heap.size+1,w.heap.size+1+1,w.heap.size+1+1+1,eE (eF xs p 0),!(eF xs p 0).isEmpty⟩ #[.slice a xs.length c,.agg fc,undef,.pointer (some ⟨w.heap.size,0,none⟩),.pointer (some ⟨w.heap.size+1,0,none⟩),.bool false,.pointer (some ⟨w.heap.size+1+1,0,none⟩),.pointer (some ⟨w.heap.size+1+1+1,0,none⟩),undef,.slice a xs.length c,.agg fc,.func (.func 95) #[] #[.pointer (some ⟨bf,0,none⟩)],.func (.func 74) #[] #[.pointer (some ⟨bl,0,none⟩),.pointer (some ⟨bi,0,none⟩)],undef,undef,undef,undef]:=⟨rfl,rfl,rfl,rfl,k4,k6,k7,by show w.heap.size+1+1≠w.heap.size+1;omega,by show w.heap.size+1+1+1≠w.heap.size+1;omega,jG _,gO _⟩
  gi_wp2_with fail;refine Hb M rfl rfl rfl ?_;clear M;have HARR:=Hd (jG (eF xs p 0));have k4':aP (W.drewN 1) (w.heap.size+1) eS 30:=k4;have HK4:=Hd (Ip (cs':=eE (eF xs p 0)) k4');have HK5:Hid (((W.drewN 1).setRow (w.heap.size+1) (eE (eF xs p 0))).heap[D]?=some (.deferred (some []))):=(setRow_other _ _ D _ hD1).trans hK;have HB5:Hid (Below w.heap.size w ((W.drewN 1).setRow (w.heap.size+1) (eE (eF xs p 0)))):=below_setRow (aD hB 1) (Nat.le_succ _) _;simp only[iZ,Xp,List.foldl,List.setIfInBounds_toArray,List.set_cons_zero,List.set_cons_succ,Rx.val];clear k6 k7 k4 hB hK hD hsz h2 k4';generalize(W.drewN 1).setRow (w.heap.size+1) (eE (eF xs p 0))=W5 at *;gi_wp2;refine⟨by simp,.inl ⟨_,_,rfl,run_takeDeferred HK5.out,?_⟩⟩;have hh:=(World.putObj_heap_other (w:=W5) (o:=.deferred none) (Ne.symm hD1)).trans HK4.out.2;exact⟨_,fX rfl _ _ _ _ _ (0,0) _ rfl hh Tryz.underlying30 rfl (by rw[HARR.out];exact eA),rfl,HB5.out.trans (belowK_b (w:=w) (Nl _) W5 D _ _ (by have:=HW2.out;have:=HHD.out;omega) HK5.out rfl rfl)⟩
 case stop =>
  rintro D c pre W _ _ h _;exact h.elim
end
section
open Go Go.RowKit Num
theorem mG(xs:List aF)(p:aE→Bool):eF xs p 0=xs.filter fun x=>p x.f:=rfl
theorem mT(xs:List aF)(f:aE):bL (xs.map aF.f) f=(eF xs (fun y=>bN y f) 0).getLast?.map aF.f:=by
 unfold bL;rw[mG,List.filter_map,List.getLast?_map];rfl
theorem zL(xs:List aF)(f:aE):(eE (eF xs (fun y=>bN y f) 0))[20]?=some (.int .i64 (eZ (xs.map aF.f) f)):=by
 unfold eZ eE;rw[mT];cases(eF xs (fun y=>bN y f) 0).getLast? with
 |none=>rfl
 |some x=>rfl
theorem Hf(xs:List aF)(f:aE):(eE (eF xs (fun y=>bN y f) 0))[0]?=some (.string ⟨(((bL (xs.map aF.f) f).map aE.key).getD []).toArray⟩):=by
 unfold eE;rw[mT];cases(eF xs (fun y=>bN y f) 0).getLast? with
 |none=>rfl
 |some x=>rfl
theorem Lb(xs:List aF)(f:aE):(!(eF xs (fun y=>bN y f) 0).isEmpty)=(bL (xs.map aF.f) f).isSome:=by
 rw[mT];cases h:eF xs (fun y=>bN y f) 0 with
 |nil=>rfl
 |cons x r=>simp
theorem rZ(f:aF)(w:World)(hE:iE w)(hf:f.ok)(hb:f.f.Behind w f.pa f.oa):
  Calls Tryz.prog 16 #[.agg f.arr] w fun e w'=>e=.returned (.int .i64 (dQ f.f))∧Below w.heap.size w w':=by
 have KF:=aP.new0 w f.arr 30;have c4:=(KF.cell 4).trans (show _=some (.int .i64 f.f.kind) from rfl);have HB0:=Hd (aB w (.cells f.arr 30));have HSZ:Hid ((Tryz.prog.info? 30).map (·.size)=some f.arr.size):=aY f.f f.pa f.oa f.pc f.oc;have HCK:Hid (∀W,Below w.heap.size w W→Calls Tryz.prog 32 #[.agg f.arr] W fun e w'=>e=.returned (.int .i64 (bY f.f))∧Below W.heap.size W w'):=fun W hbw=>rT f.f f.pa f.oa f.pc f.oc W (hE.below hbw) hf.small hf.cap (hb.below hbw)
 have HR:Hid (dQ f.f=if bY f.f≠0 then bY f.f else if f.f.kind≠10 then 7 else 0):=rfl;have KF:=Hd KF;clear hE hf hb;generalize dQ f.f=res at *;generalize bY f.f=fe at *;generalize f.arr=fc at *;generalize f.f.kind=k at *;go_enter Tryz.func16,Tryz.ntmps16;go_wp2_with (refine wpList_load_row rfl 30 _ rfl w.heap.size rfl 30 fc (0,0) _ KF.out.2 Tryz.underlying30 rfl HSZ.out ?_);refine(HCK.out _ HB0.out).mono ?_;rintro e w1 ⟨rfl,hb⟩;have HB1:=Hd (aA HB0.out hb);have c4:=(hb.cell (p:=⟨w.heap.size,4,none⟩) KF.out.1).trans c4;clear hb HCK HB0
 by_cases he:fe=0
 ·subst he
  by_cases hk:k=10
  ·subst hk;have HV:Hid (res=0):=by show _=_;rw[HR.out];rfl
   clear HR;go_wp2;go_ret;exact⟨by rw[HV.out];rfl,HB1.out⟩
  ·have hk':(k==10)=false:=by simpa using hk
   have HV:Hid (res=7):=by show _=_;rw[HR.out,if_neg (by simp),if_pos hk]
   clear HR;go_wp2;go_ret;exact⟨by rw[HV.out];rfl,HB1.out⟩
 ·have he':(fe==0)=false:=by simpa using he
  have HV:Hid (res=fe):=by show _=_;rw[HR.out,if_pos he]
  clear HR;go_wp2;go_ret;exact⟨by rw[HV.out];rfl,HB1.out⟩
structure gT(w:World)(a:Option Addr)(c:Nat)(xs:List aF):Prop where
 facts:fS w a xs
 ok:∀x,x∈xs→x.ok
 len:xs.length≤1000000
theorem gT.below{w w':World}{a:Option Addr}{c:Nat}{xs:List aF}(h:gT w a c xs)(hb:Below w.heap.size w w'):gT w' a c xs:=⟨h.facts.below hb,h.ok,h.len⟩
theorem fE(xs:List aF)(a:Option Addr)(c:Nat)(f:aF)(w:World)(hE:iE w)(hv:gT w a c xs)(hf:f.ok)(hb:f.f.Behind w f.pa f.oa):
  Calls Tryz.prog 12 #[.slice a xs.length c,.agg f.arr] w fun e w'=>e=.returned (.tuple #[.int .i64 (bC (xs.map aF.f) f.f),.int .i64 (aL (xs.map aF.f) f.f)])∧Below w.heap.size w w':=by
 have KF:=Hd (aP.new0 w f.arr 30);have HB0:=Hd (aB w (.cells f.arr 30));have HSZ:Hid ((Tryz.prog.info? 30).map (·.size)=some f.arr.size):=aY f.f f.pa f.oa f.pc f.oc;have HVC:Hid (∀W,Below w.heap.size w W→Calls Tryz.prog 38 #[.slice a xs.length c] W fun e w'=>e=.returned (.int .i64 (dF (xs.map aF.f)))∧Below W.heap.size W w'):=fun W hbw=>lC xs a c W (hE.below hbw) hv.len (hv.facts.below hbw) hv.ok
 have HXC:Hid (∀W,Below w.heap.size w W→Calls Tryz.prog 16 #[.agg f.arr] W fun e w'=>e=.returned (.int .i64 (dQ f.f))∧Below W.heap.size W w'):=fun W hbw=>rZ f W (hE.below hbw) hf (hb.below hbw)
 have HLA:Hid (∀W,Below w.heap.size w W→Calls Tryz.prog 39 #[.slice a xs.length c,.agg f.arr] W fun e w'=>e=.returned (.tuple #[.agg (eE (eF xs (fun y=>bN y f.f) 0)),.bool (!(eF xs (fun y=>bN y f.f) 0).isEmpty)])∧Below W.heap.size W w'):=fun W hbw=>He xs a c f W hv.len (hv.facts.below hbw)
 have HCH:=Hd (zL xs f.f);have HLS:=Hd (jG (eF xs (fun y=>bN y f.f) 0));have HL1:=Hd (gO (eF xs (fun y=>bN y f.f) 0));have HER:Hid (aL (xs.map aF.f) f.f=if dF (xs.map aF.f)≠0∨dQ f.f≠0 then 1 else 0):=rfl;have HCV:Hid (bC (xs.map aF.f) f.f=if aL (xs.map aF.f) f.f≠0 then 0 else eZ (xs.map aF.f) f.f):=rfl;clear hE hv hf hb;generalize bC (xs.map aF.f) f.f=cv at *;generalize aL (xs.map aF.f) f.f=er at *;generalize eZ (xs.map aF.f) f.f=ch at *;generalize dF (xs.map aF.f)=ve at *;generalize dQ f.f=xe at *;generalize eE (eF xs (fun y=>bN y f.f) 0)=la at *;generalize(!(eF xs (fun y=>bN y f.f) 0).isEmpty)=lf at *;generalize f.arr=fc at *;generalize xs.length=n at *;go_enter Tryz.func12,Tryz.ntmps12;go_wp2_with fail;refine(HVC.out _ HB0.out).mono ?_;rintro e w1 ⟨rfl,hb⟩;have HB1:=Hd (aA HB0.out hb);have KF:=Hd (KF.out.below hb);clear hb HVC HB0
 by_cases h1:ve=0
 ·subst h1;go_wp2_with (refine gV (by rfl) 30 _ rfl w.heap.size rfl 30 fc (0,0) _ KF.out.2 Tryz.underlying30 rfl HSZ.out ?_);refine(HXC.out _ HB1.out).mono ?_;rintro e w2 ⟨rfl,hb⟩;have HB2:=Hd (aA HB1.out hb);have KF:=Hd (KF.out.below hb);clear hb HXC HB1
  by_cases h2:xe=0
  ·subst h2;have HV:Hid (er=0):=by show _=_;rw[HER.out];rfl
   have HW:Hid (cv=ch):=by show _=_;rw[HCV.out,HV.out];rfl
   clear HER HCV;go_wp2_with (refine wpList_load_row rfl 30 _ rfl w.heap.size rfl 30 fc (0,0) _ KF.out.2 Tryz.underlying30 rfl HSZ.out ?_);refine(HLA.out _ HB2.out).mono ?_;rintro e w3 ⟨rfl,hb⟩;have HBa:Hid (Below w.heap.size w (w3.alloc (.cells eS 30))):=aA (aA HB2.out hb) (aB _ _);have HS3:Hid (w.heap.size≤w3.heap.size):=Nat.le_trans HB2.out.size hb.size;have HNEW:=Hd (heap_alloc_new w3 (.cells eS 30));have HSL:Hid ((Tryz.prog.info? 30).map (·.size)=some la.size):=by show _=_;rw[HLS.out];exact eA
   have HS21:Hid (eS.size=la.size):=by show _=_;rw[HLS.out];rfl
   clear hb HLA HB2 KF;go_wp2_with (refine fI rfl 30 _ _ rfl w3.heap.size rfl la rfl HNEW.out HSL.out HS21.out HL1.out ?_;intro w4 k4 b4 _;have HB4:=Hd (HBa.out.trans (b4 _ HS3.out));have c20:=(k4.cell 20).trans HCH.out;clear k4 b4);go_ret2;exact⟨by rw[HV.out,HW.out];rfl,HB4.out⟩
  ·have h2':(xe==0)=false:=by simpa using h2
   have HV:Hid (er=1):=by show _=_;rw[HER.out,if_pos (.inr h2)]
   have HW:Hid (cv=0):=by show _=_;rw[HCV.out,HV.out];rfl
   clear HER HCV;go_wp2;go_ret2;exact⟨by rw[HV.out,HW.out];rfl,HB2.out⟩
 ·have h1':(ve==0)=false:=by simpa using h1
  have HV:Hid (er=1):=by show _=_;rw[HER.out,if_pos (.inl h1)]
  have HW:Hid (cv=0):=by show _=_;rw[HCV.out,HV.out];rfl
  clear HER HCV;go_wp2;go_ret2;exact⟨by rw[HV.out,HW.out];rfl,HB1.out⟩
end
section
open Go Go.RowKit Go.Shelf Num
theorem Qs(x:aF)(w:World):
  Calls Tryz.prog 47 #[.agg x.arr] w fun e w'=>e=.returned (.bool (decide (x.f.kind=11)))∧Below w.heap.size w w':=by
 have KX:=aP.new0 w x.arr 30;have x4:=(KX.cell 4).trans (show _=some (.int .i64 x.f.kind) from rfl);have HB0:=Hd (aB w (.cells x.arr 30));clear KX;generalize x.arr=xc at *;generalize x.f.kind=k at *
 by_cases h1:k=11
 ·subst h1;go_enter Tryz.func47,Tryz.ntmps47;go_wp2;go_ret;exact⟨rfl,HB0.out⟩
 ·have h1':(k==11)=false:=by simpa using h1
  have h1'':decide (k=11)=false:=by simpa using h1
  rw[h1''];go_enter Tryz.func47,Tryz.ntmps47;go_wp2;go_ret;exact⟨rfl,HB0.out⟩
theorem Ys:(Tryz.prog.info? 9).map (fun i=>(i.zero,i.size,i.bytes))=some (some (.string ⟨#[]⟩),1,16):=by kernel_rfl
theorem Dc{P:Nat→Prop}{W w1:World}{n₀ B:Nat}{t e:TypeId}{size:Nat}{v v':Value}{k m:Nat}{xs ys:List Value}{tmp:Obj}(hv:Boxed W B t v)(hte:t≠e)(hrow:W.ownsRow n₀ e size v k xs)(hn₀:n₀≤W.heap.size)(hP:∀j,P j→j<n₀∧j≠B)
  (hown':w1.ownsRow n₀ e size v' m ys) (hgrow:(W.alloc tmp).grownBy w1 v.ownBlock) :
  Boxed w1 B t v∧Boxed (w1.setCell ⟨B,0,none⟩ v') B t v'∧(w1.setCell ⟨B,0,none⟩ v').ownsRow n₀ e size v' m ys∧KeepsOthers W (w1.setCell ⟨B,0,none⟩ v')∧eK P W (w1.setCell ⟨B,0,none⟩ v'):=by
 have hv1:Boxed w1 B t v:=(hv.alloc tmp).kept hgrow (hv.not_row hte hrow);refine⟨hv1,hv1.set v',hown'.kept (grownBy_setCell' w1 B v') (.inr (hv1.not_row hte hown').symm),?_,?_⟩
 ·refine((KeepsOthers.alloc W tmp).trans (KeepsOthers.of_grownBy hgrow fun j o ej hj=>?_)).trans (KeepsOthers.setCell _ _ _);rcases(hrow.alloc tmp).2 with⟨rfl,_⟩|⟨g,cap,cur,rfl,_,hgb,_⟩
  ·simp[Value.ownBlock] at ej
  ·obtain rfl:g=j:=by simpa[Value.ownBlock] using ej
   rw[hgb] at hj;cases hj;rfl
 ·have h0:eK P W (W.alloc tmp):=eK.of_below (aB W tmp) fun j hj=>Nat.lt_of_lt_of_le (hP j hj).1 hn₀
  have h1:eK P (W.alloc tmp) w1:=⟨hgrow.os,hgrow.tape,hgrow.output,hgrow.size,fun j hj=>hgrow.block j (by rw[World.size_alloc];have:=(hP j hj).1;omega) fun ej=>by
   have:=hrow.lt j ej.symm;have:=(hP j hj).1;omega⟩
  exact(h0.trans h1).setCell (fun h=>(hP B h).2 rfl) v'
theorem Ck{w:World}{b b' e size n:Nat}{v:Value}{xs:List Value}(h:w.ownsRow b e size v n xs)(hb:b'≤b):w.ownsRow b' e size v n xs :=
 ⟨h.1,h.2.imp id fun⟨g,cap,cur,h1,h2,r⟩=>⟨g,cap,cur,h1,Nat.le_trans hb h2,r⟩⟩
theorem tI{β:Type}{P:Nat→Prop}{B:Nat}{w₀:World}(hP:∀k,P k→k<w₀.heap.size∧k<B):OwnFrom B (fun (_:β) W=>eK P w₀ W):=by
 intro _ X Y row hs hg hr;exact hs.trans ⟨hg.os,hg.tape,hg.output,hg.size,fun k hk=>hg.block k (Nat.lt_of_lt_of_le (hP k hk).1 hs.size) fun e=>by have:=(hr k e.symm).1;have:=(hP k hk).2;omega⟩
def vI(fs:List aE)(x:aE)(pre:List aF):Bool:=pre.any fun f=>(bL fs f.f).any fun y=>y.key==x.key
theorem Ri(fs:List aE)(x:aE)(pre:List aF)(f:aF):vI fs x (pre ++ [f])=(vI fs x pre || (bL fs f.f).any fun y=>y.key==x.key):=by simp[vI]
theorem Vl(xs:List aF)(x:aE):vI (xs.map aF.f) x (eF xs (fun y=>decide (y.kind=10)) 0)=pJ (xs.map aF.f) x:=by
 unfold vI pJ;rw[mG,List.any_filter,List.any_map];rfl
def jT(fs:List aE)(pre:List aF):List (List UInt8):=((pre.map aF.f).filter fun x=>!pJ fs x).map aE.key
theorem La(fs:List aE)(pre:List aF)(x:aF):jT fs (pre ++ [x])=if pJ fs x.f=true then jT fs pre else jT fs pre ++ [x.f.key]:=by
 unfold jT;rw[List.map_append,List.filter_append,List.map_append];cases h:pJ fs x.f <;> simp[h]
def dZ(fs:List aE):List (List UInt8):=(Ha fs).map aE.key
theorem Qr(xs:List aF):jT (xs.map aF.f) (eF xs (fun y=>decide (y.kind=11)) 0)=dZ (xs.map aF.f):=by
 unfold jT dZ Ha;rw[mG];rw[List.filter_map,List.filter_map,List.filter_filter];congr 2;exact List.filter_congr fun x _=>by simp[Function.comp,Bool.and_comm]
theorem Qq(fs:List aE)(pre:List aF):(jT fs pre).length≤pre.length:=by
 unfold jT;rw[List.length_map];exact Nat.le_trans (List.length_filter_le _ _) (by simp)
theorem Vx(o:Option aE)(k:List UInt8):(o.any fun y=>y.key==k)=(o.isSome&&((o.map aE.key).getD []==k)):=by cases o <;> simp
def Og(sl:Value)(N o bl bi:Nat)(s5 s6 s7 s15 s16 s17 s18:Value):Array Value:=#[sl,.pointer (some ⟨N,0,none⟩),.slice none 0 0,.int .i64 0,.pointer (some ⟨o,0,none⟩),s5,s6,s7,undef,undef,sl,.int .i64 0,.bool false,sl,.func (.func 74) #[] #[.pointer (some ⟨bl,0,none⟩),.pointer (some ⟨bi,0,none⟩)],s15,s16,s17,s18,undef,undef,undef,undef,undef,undef,undef,undef,undef,undef,undef,undef,undef,undef,undef,undef,undef,undef,undef,undef,undef,undef,undef,undef,undef]
attribute [local go_sem] Oper.semAt_some
theorem Gz(xs:List aF)(a:Option Addr)(c:Nat)(w:World)(hE:iE w)(hv:gT w a c xs)(hvc:dF (xs.map aF.f)=0):
  Calls Tryz.prog 21 #[.slice a xs.length c] w fun e w'=>(∃v,e=.returned (.tuple #[v,.int .i64 0])∧w'.ownsRow w.heap.size 9 1 v (dZ (xs.map aF.f)).length (iS (dZ (xs.map aF.f))))∧Below w.heap.size w w':=by
 obtain⟨i0,hi,hz0,hz1,hz2⟩:=info_parts Ys;have HVC:Hid (∀W,Below w.heap.size w W→Calls Tryz.prog 38 #[.slice a xs.length c] W fun e w'=>e=.returned (.int .i64 0)∧Below W.heap.size W w'):=fun W hbw=>by have:=lC xs a c W (hE.below hbw) hv.len (hv.facts.below hbw) hv.ok;rw[hvc] at this;exact this
 have hn:=hv.len;have HR:=Hd hv.facts;have HINF:=Hd (And.intro hi (And.intro hz0 (And.intro hz1 hz2)));clear hE hv hvc hi hz0 hz1 hz2;obtain⟨fs,hfs⟩:∃fs,fs=xs.map aF.f:=⟨_,rfl⟩
 have HFS:=Hd hfs;rw[←hfs];clear hfs;refine(callsIn_wide (n:=12)).1 ?_;refine callsIn_of_wp_marks Tryz.func21 rfl trivial ?_ rfl;simp only[Tryz.ntmps21,List.size_toArray,List.length_cons,List.length_nil,Nat.reduceAdd,Nat.reduceSub,Array.replicate_succ,Array.replicate_zero,List.push_toArray,List.append_toArray,List.nil_append,List.cons_append];have b1:=aB w (.cells #[.slice a xs.length c] 22);have KS:=Hd (aP.new0 w #[.slice a xs.length c] 22);have HB0:=Hd b1;have cS:=KS.out.cell 0;clear b1;gi_wp2_with fail;refine⟨trivial,(callsIn_wide.2 (HVC.out _ HB0.out)).mono ?_⟩;rintro e w1 ⟨rfl,hb1⟩;have KS:=Hd ((KS.out.below hb1).below (aB w1 (.cells #[.slice none 0 0] 45)));have KO:=Hd (aP.new0 w1 #[.slice none 0 0] 45);have HB1:=Hd (aA (aA HB0.out hb1) (aB w1 (.cells #[.slice none 0 0] 45)));have HLT:Hid (w.heap.size<w1.heap.size):=by have:=hb1.size;rw[World.size_alloc] at this;exact this
 have cS:=KS.out.cell 0;have HSZ1:Hid ((w1.alloc (.cells #[.slice none 0 0] 45)).heap.size=w1.heap.size+1):=World.size_alloc _ _;clear hb1 HVC HB0;gi_wp2_with fail;refine⟨trivial,(callsIn_wide.2 (qZ _ _ _ _ _ _)).mono ?_⟩;rintro e w3 ⟨bl,bi,rfl,lbl,lbi,kbl,kbi,hb3⟩;have KS:=Hd (KS.out.below hb3);have KO:=Hd (KO.out.below hb3);have HB3:=Hd (aA HB1.out hb3);have HW3:Hid (w1.heap.size+1≤w3.heap.size∧w1.heap.size+1≤bl∧w1.heap.size+1≤bi):=by have h1:=HSZ1.out;have h2:=hb3.size;show _∧_;omega
 have KBL:=Hd kbl;have KBI:=Hd kbi;clear lbl lbi kbl kbi hb3 HB1 HSZ1 cS;obtain⟨o,ho⟩:∃o,o=w1.heap.size:=⟨_,rfl⟩
 rw[←ho] at KO HW3 HLT ⊢;clear ho;obtain⟨P,hP⟩:∃P:Nat→Prop,P=fun k=>k<w3.heap.size∧k≠o:=⟨_,rfl⟩
 have HPP:Hid (∀k,P k↔k<w3.heap.size∧k≠o):=fun k=>by rw[hP]
 clear hP;have HBW:Hid (∀W,eK P w3 W→Below w.heap.size w W):=fun W hW=>HB3.out.trans (hW.below fun k hk=>(HPP.out k).2 ⟨by have:=HB3.out.size;omega,by have:=HLT.out;omega⟩)
 have hg:=nK 11 xs a c bl bi 47 #[] (fun y=>decide (y.kind=11)) P w3 hn (enters_of Tryz.func47 (by kernel_rfl) rfl) (fun k hk=>((HPP.out k).1 hk).1) (fun W hW=>by
  have h2:=HW3.out;exact⟨HR.out.below (HBW.out W hW),hW.box ((HPP.out bl).2 ⟨KBL.out.1,by omega⟩) KBL.out,hW.box ((HPP.out bi).2 ⟨KBI.out.1,by omega⟩) KBI.out,fun x _ W' _=>Qs x W'⟩)
 have HG:=Hd hg;clear hg KBL KBI;gi_wp2_with fail;refine wpIn_rangeFunc_ownH (F:=Fence.wide) rfl (by decide) (gf:=74) (lb:=#[.pointer (some ⟨bl,0,none⟩),.pointer (some ⟨bi,0,none⟩)]) rfl trivial (enters_of Tryz.func74 (by kernel_rfl) rfl) HG.out
  (fun h k=>h.trans k) (fun W l o' o'' hl _ _ _=>eK.putObj W l o'' fun hp=>absurd ((HPP.out l).1 hp).1 (by omega)) (Br _ _) (fun _=>rfl)
  (fun pre W=>(∃v,Boxed W o 45 v∧W.ownsRow w3.heap.size 9 1 v (jT fs pre).length (iS (jT fs pre))∧True)∧(eK P w3 W∧w3.heap.size≤W.heap.size))
  (fun _ _ _=>False)
  (OwnFrom.and (Own.from (holdsRow_own w3.heap.size o 45 9 1 (fun pre=>(jT fs pre).length) (fun pre=>iS (jT fs pre)) (fun _ _=>True)) _) (OwnFrom.and (tI (fun k hk=>⟨((HPP.out k).1 hk).1,((HPP.out k).1 hk).1⟩)) (fun _ A B row hs hg _=>Nat.le_trans hs hg.size)))
  (fun _ _ _ _ _ hs _ _=>hs)
  ⟨⟨_,aP.boxed KO.out,World.ownsRow_nil _ _ _ _,trivial⟩,eK.refl _ _,Nl _⟩
  (fun x a' W=>∃Bx,w3.heap.size≤Bx∧aP W Bx x.arr 30∧a' = { tmps:=Og (.slice a xs.length c) w.heap.size o bl bi (.pointer (some ⟨Bx,0,none⟩)) undef undef (.agg x.arr) undef undef undef,defers:=[] })
  (fun x a' _ A B row hs hg hr=>by obtain⟨Bx,h1,h2,h3⟩:=hs;exact⟨Bx,h1,nP Bx _ (fun (_:Unit)=>x.arr) () A B row h2 hg (fun r e=>(hr r e).2),h3⟩)
  ?assign ?body ?done ?stop
 case assign =>
  rintro l pre x W K ⟨⟨v,hvb,hvr,_⟩,hk,hsz⟩ hK;have HN:=Hd (heap_alloc_new W (.cells eS 30));have HBA:=Hd (aB W (.cells eS 30));have HKA:=Hd (KeepsOthers.alloc W (.cells eS 30));have HSX:Hid ((Tryz.prog.info? 30).map (·.size)=some x.arr.size):=aY x.f x.pa x.oa x.pc x.oc;have HS21:Hid (eS.size=x.arr.size):=rfl;have HONE:=Hd (dV x);have HKK:=Hd hK;have HVB:=Hd hvb;have HVR:=Hd hvr;have HKP:=Hd hk;unfold Lu;clear hvb hvr hk hK;gi_wp2_with (refine bQ (by rfl) 30 _ _ rfl W.heap.size rfl x.arr rfl HN.out HSX.out HS21.out HONE.out ?_;intro w4 kx bx ko kot _);have hb4:=HBA.out.trans (bx _ (Nl _));have hk4:eK P W w4:=eK.of_below hb4 (fun k hk=>Nat.lt_of_lt_of_le ((HPP.out k).1 hk).1 hsz);have hgr4:=gZ hb4;exact HKK.out _ _ ((HKA.out.trans ko).from _) hk4 ⟨⟨v,HVB.out.kept hgr4 (by simp),HVR.out.kept hgr4 (by cases h:v.ownBlock <;> simp),trivial⟩,HKP.out.trans hk4,Nat.le_trans hsz hb4.size⟩ ⟨W.heap.size,hsz,kx,rfl⟩
 case body =>
  rintro l pre x a' W hl ⟨r,hr⟩ ⟨⟨v,hvb,hvr,_⟩,hkp,hsz⟩ ⟨Bx,hBx,kX,rfl⟩ hlt;unfold Og;have hNP:P w.heap.size:=(HPP.out _).2 ⟨by have:=HLT.out;have:=HW3.out;omega,by have:=HLT.out;omega⟩;have kS:=hkp.box hNP KS.out;have cS:=kS.cell 0;have lN:=kS.1;have HBN:Hid (∀W',Below W.heap.size W W'→Below w.heap.size w W'):=fun W' h=>aA (HBW.out W hkp) h
  have HKP:=Hd hkp;have HVB:=Hd hvb;have HVR:=Hd hvr;have HKX:=Hd kX;have HRL:=Hd hr;have hlX:=kX.1;clear hkp hvb hvr kX hr kS;gi_wp2_with fail;refine⟨trivial,(CallsIn.inRound l (callsIn_wide.2 (qZ _ _ _ _ _ _))).mono ?_⟩;rintro e w5 ⟨bl2,bi2,rfl,lbl,lbi,kbl,kbi,hb5⟩;have hbW5:Below W.heap.size W w5:=aA (aB W (.cells #[.bool false] 4)) hb5;have kc5:=(aP.new0 W #[.bool false] 4).below hb5;have h5:W.heap.size+1≤w5.heap.size:=by have:=hb5.size;rw[World.size_alloc] at this;exact this
  have hbl2:W.heap.size+1≤bl2∧W.heap.size+1≤bi2:=by rw[World.size_alloc] at lbl lbi;exact⟨lbl,lbi⟩
  have hr5:w5.heap[l]?=some (.loop r):=(hbW5.block l (Ai.1 HRL.out).1).trans HRL.out;obtain⟨P2,hP2⟩:∃P2:Nat→Prop,P2=fun k=>k<w5.heap.size∧k≠W.heap.size:=⟨_,rfl⟩
  have HPP2:Hid (∀k,P2 k↔k<w5.heap.size∧k≠W.heap.size):=fun k=>by rw[hP2]
  clear hP2;have hg2:=nK 9 xs a c bl2 bi2 48 #[] (fun y=>decide (y.kind=10)) P2 w5 hn (enters_of Tryz.func48 (by kernel_rfl) rfl) (fun k hk=>((HPP2.out k).1 hk).1) (fun W' hW' =>
   ⟨HR.out.below (HBN.out W' (hbW5.trans (hW'.below fun k hk=>(HPP2.out k).2 ⟨by omega,by omega⟩))),hW'.box ((HPP2.out bl2).2 ⟨kbl.1,by omega⟩) kbl,hW'.box ((HPP2.out bi2).2 ⟨kbi.1,by omega⟩) kbi,fun x _ W' _=>Em x W'⟩)
  have HG2:=Hd hg2;have HB5:=Hd hbW5;have HKC5:=Hd kc5;clear hg2 hbW5 kc5 lbl lbi kbl kbi hb5 hbl2;gi_wp2_with fail;refine wpIn_rangeFunc_ownN (l₀:=l) (r₀:=r) rfl hr5 (by decide) (gf:=74) (lb:=#[.pointer (some ⟨bl2,0,none⟩),.pointer (some ⟨bi2,0,none⟩)]) rfl trivial (enters_of Tryz.func74 (by kernel_rfl) rfl) (HG2.out.inRound l)
   (fun h k=>h.trans k) (fun W l o' o'' hl _ _ _=>eK.putObj W l o'' fun hp=>absurd ((HPP2.out l).1 hp).1 (by omega)) (Br _ _) (fun _=>rfl)
   (fun pre2 W'=>aP W' W.heap.size #[.bool (vI fs x.f pre2)] 4∧(Below W.heap.size W W'∧w5.heap.size≤W'.heap.size))
   (fun _ _ _=>False)
   (OwnFrom.and (Own.from (nP _ _ (fun pre2:List aF=>#[.bool (vI fs x.f pre2)])) _) (OwnFrom.and (ownFrom_below (Nl _) (by omega)) (fun _ A B row hs hg _=>Nat.le_trans hs hg.size)))
   (fun _ _ _ _ _ hs _ _=>hs)
   ⟨HKC5.out,HB5.out,Nl _⟩
   (fun f a'' W''=>∃B7,w5.heap.size≤B7∧aP W'' B7 f.arr 30∧a'' = { tmps:=Og (.slice a xs.length c) w.heap.size o bl bi (.pointer (some ⟨Bx,0,none⟩)) (.pointer (some ⟨W.heap.size,0,none⟩)) (.pointer (some ⟨B7,0,none⟩)) (.agg x.arr) (.slice a xs.length c) (.func (.func 74) #[] #[.pointer (some ⟨bl2,0,none⟩),.pointer (some ⟨bi2,0,none⟩)]) (.agg f.arr),defers:=[] })
   (fun f a'' _ A B row hs hg hr=>by obtain⟨B7,h1,h2,h3⟩:=hs;exact⟨B7,h1,nP B7 _ (fun (_:Unit)=>f.arr) () A B row h2 hg (fun r e=>(hr r e).2),h3⟩)
   ?assign2 ?body2 ?done2 ?stop2
  case assign2 =>
   rintro l2 pre2 f W2 K ⟨kc,hbw,hs5⟩ hK;have HN:=Hd (heap_alloc_new W2 (.cells eS 30));have HBA:=Hd (aB W2 (.cells eS 30));have HKA:=Hd (KeepsOthers.alloc W2 (.cells eS 30));have HSX:Hid ((Tryz.prog.info? 30).map (·.size)=some f.arr.size):=aY f.f f.pa f.oa f.pc f.oc;have HS21:Hid (eS.size=f.arr.size):=rfl;have HONE:=Hd (dV f);have HKK:=Hd hK;have HKC:=Hd kc;have HBB:=Hd hbw;unfold Lu;clear kc hbw hK;gi_wp2_with (refine bQ (by rfl) 30 _ _ rfl W2.heap.size rfl f.arr rfl HN.out HSX.out HS21.out HONE.out ?_;intro w4 kx bx ko kot _);have hb4:=HBA.out.trans (bx _ (Nl _));have hk4:eK P2 W2 w4:=eK.of_below hb4 (fun k hk=>Nat.lt_of_lt_of_le ((HPP2.out k).1 hk).1 hs5);exact HKK.out _ _ ((HKA.out.trans ko).from _) hk4 ⟨HKC.out.below hb4,aA HBB.out hb4,Nat.le_trans hs5 hb4.size⟩ ⟨W2.heap.size,hs5,kx,rfl⟩
  case body2 =>
   rintro l2 pre2 f a'' W2 hl2 ⟨r2,hr2⟩ ⟨kc,hbw,hs5⟩ ⟨B7,hB7,k7,rfl⟩ hlt2;unfold Og;have cS2:=(hbw.cell (p:=⟨w.heap.size,0,none⟩) lN).trans cS;have HK7:=Hd k7;have HKC:=Hd kc;have HBB:=Hd hbw;have HKX2:=Hd (HKX.out.below hbw);have HSF:Hid ((Tryz.prog.info? 30).map (·.size)=some f.arr.size):=aY f.f f.pa f.oa f.pc f.oc;have HLA:=Hd (He xs a c f W2 hn (HR.out.below (HBN.out W2 hbw)));have HLK:=Hd (Hf xs f.f);have HLS:=Hd (jG (eF xs (fun y=>bN y f.f) 0));have HL1:=Hd (gO (eF xs (fun y=>bN y f.f) 0));have HXK:Hid (x.arr[0]?=some (.string ⟨x.f.key.toArray⟩)):=rfl;have hcn:vI fs x.f (pre2 ++ [f])=(vI fs x.f pre2 || ((bL fs f.f).isSome&&(((bL fs f.f).map aE.key).getD []==x.f.key))):=by rw[Ri,Vx]
   have hlf:=Lb xs f.f;rw[←HFS.out] at hlf HLK;rw[hlf] at HLA;have HCN:=Hd hcn;have hs5':=hs5;clear kc k7 hr2 hbw hcn hlf hs5;generalize hcnE:vI fs x.f (pre2 ++ [f])=cn at *;have HCNE:=Hd hcnE;clear hcnE;generalize vI fs x.f pre2=cb at *;generalize(bL fs f.f).isSome=lf at *;generalize((bL fs f.f).map aE.key).getD []=lk at *;generalize eE (eF xs (fun y=>bN y f.f) 0)=la at *;generalize hxk:x.f.key=xk at *;gi_wp2_with (refine eP (by rfl) 30 _ rfl B7 rfl f.arr _ HK7.out Tryz.underlying30 rfl HSF.out ?_);refine⟨trivial,(CallsIn.inRound l2 (CallsIn.inRound l (callsIn_wide.2 HLA.out))).mono ?_⟩;rintro e w6 ⟨rfl,hb6⟩;have HB6:=Hd hb6;have HNEW:=Hd (heap_alloc_new w6 (.cells eS 30));have HBA:=Hd (aB w6 (.cells eS 30));have HKA:=Hd (KeepsOthers.alloc w6 (.cells eS 30));have HSL:Hid ((Tryz.prog.info? 30).map (·.size)=some la.size):=by show _=_;rw[HLS.out];exact eA
   have HS21:Hid (eS.size=la.size):=by show _=_;rw[HLS.out];rfl
   have hsz6:=hb6.size;clear hb6 HLA cS2;have hfin:∀w7,Below w6.heap.size w6 w7→KeepsOthers w6 w7→aP w7 W.heap.size #[.bool cb] 4→ownPostG w5.heap.size (eK P2) (fun pre2 W'=>aP W' W.heap.size #[.bool (vI fs x.f pre2)] 4∧(Below W.heap.size W W'∧w5.heap.size≤W'.heap.size)) (fun _ _ _=>False) (pre2 ++ [f]) W2 .normal { tmps:=#[],defers:=[] } (w7.setCell ⟨W.heap.size,0,none⟩ (.bool cn)):=by
    intro w7 hb7 hk7 kb7;have h27:=aA HB6.out hb7;refine⟨((xL HB6.out).trans (hk7.trans (KeepsOthers.setCell _ _ _))).from _,(eK.of_below h27 (fun k hk=>Nat.lt_of_lt_of_le ((HPP2.out k).1 hk).1 hs5')).setCell (fun h=>((HPP2.out _).1 h).2 rfl) _,?_,(aA HBB.out h27).setCell (p:=⟨W.heap.size,0,none⟩) (Nl _) _,Nat.le_trans hs5' (Nat.le_trans h27.size (grownBy_setCell' w7 W.heap.size (.bool cn)).size)⟩;show aP _ _ #[.bool (vI fs x.f (pre2 ++ [f]))] _;rw[HCNE.out];exact Boxed.box (Boxed.set (.bool cn) (aP.boxed kb7))
   have HFIN:=Hd hfin;clear hfin;cases cb with
   |true =>
    have HV:Hid (cn=true):=by show _=_;rw[HCN.out];rfl
    obtain rfl:=HV.out;clear HCN HV;gi_wp2_with (refine bQ (by rfl) 30 _ _ rfl w6.heap.size rfl la rfl HNEW.out HSL.out HS21.out HL1.out ?_;intro w7 k8 b8 ko8 kot8 _;have HB7:=Hd (HBA.out.trans (b8 _ (Nl _)));have HK7':=Hd (HKA.out.trans ko8);have k60:=(HKC.out.below HB6.out).below HB7.out;have c60:=k60.cell 0;have f60:=Boxed.frozen (aP.boxed k60);have HKB:=Hd k60;clear k8 b8 ko8 kot8 k60);exact HFIN.out _ HB7.out HK7'.out HKB.out
   |false =>
    cases lf with
    |false =>
     have HV:Hid (cn=false):=by show _=_;rw[HCN.out];rfl
     obtain rfl:=HV.out;clear HCN HV;gi_wp2_with (refine bQ (by rfl) 30 _ _ rfl w6.heap.size rfl la rfl HNEW.out HSL.out HS21.out HL1.out ?_;intro w7 k8 b8 ko8 kot8 _;have HB7:=Hd (HBA.out.trans (b8 _ (Nl _)));have HK7':=Hd (HKA.out.trans ko8);have k60:=(HKC.out.below HB6.out).below HB7.out;have c60:=k60.cell 0;have f60:=Boxed.frozen (aP.boxed k60);have HKB:=Hd k60;clear k8 b8 ko8 kot8 k60);exact HFIN.out _ HB7.out HK7'.out HKB.out
    |true =>
     cases heq:(lk==xk) with
     |true =>
      have HV:Hid (cn=true):=by show _=_;rw[HCN.out,heq];rfl
      obtain rfl:=HV.out;clear HCN HV;gi_wp2_with (refine bQ (by rfl) 30 _ _ rfl w6.heap.size rfl la rfl HNEW.out HSL.out HS21.out HL1.out ?_;intro w7 k8 b8 ko8 kot8 _;have HB7:=Hd (HBA.out.trans (b8 _ (Nl _)));have HK7':=Hd (HKA.out.trans ko8);have k60:=(HKC.out.below HB6.out).below HB7.out;have c60:=k60.cell 0;have f60:=Boxed.frozen (aP.boxed k60);have HKB:=Hd k60;have c80:=(k8.cell 0).trans HLK.out;have c50:=(((HKX2.out.below HB6.out).below HB7.out).cell 0).trans HXK.out;clear k8 b8 ko8 kot8 k60);exact HFIN.out _ HB7.out HK7'.out HKB.out
     |false =>
      have HV:Hid (cn=false):=by show _=_;rw[HCN.out,heq];rfl
      obtain rfl:=HV.out;clear HCN HV;gi_wp2_with (refine bQ (by rfl) 30 _ _ rfl w6.heap.size rfl la rfl HNEW.out HSL.out HS21.out HL1.out ?_;intro w7 k8 b8 ko8 kot8 _;have HB7:=Hd (HBA.out.trans (b8 _ (Nl _)));have HK7':=Hd (HKA.out.trans ko8);have k60:=(HKC.out.below HB6.out).below HB7.out;have c60:=k60.cell 0;have f60:=Boxed.frozen (aP.boxed k60);have HKB:=Hd k60;have c80:=(k8.cell 0).trans HLK.out;have c50:=(((HKX2.out.below HB6.out).below HB7.out).cell 0).trans HXK.out;clear k8 b8 ko8 kot8 k60);exact HFIN.out _ HB7.out HK7'.out HKB.out
  case done2 =>
   rintro ys W2 rfl ⟨kc,hbw,hs5⟩;have he:=Vl xs x.f;rw[←HFS.out] at he;rw[he] at kc;have HBB:=Hd hbw;have HKX2:=Hd (HKX.out.below hbw);have HKPW:Hid (eK P W W2):=eK.of_below hbw (fun k hk=>Nat.lt_of_lt_of_le ((HPP.out k).1 hk).1 hsz);have hgr:=gZ hbw;have HVB2:=Hd (HVB.out.kept hgr (by simp));have HVR2:=Hd (HVR.out.kept hgr (by cases h:v.ownBlock <;> simp));have HSN:=Hd (La fs pre x);have HKS:=Hd (xL hbw);have hs2:w3.heap.size≤W2.heap.size:=Nat.le_trans hsz hbw.size;have hll:(jT fs pre).length+1≤1000000:=by have:=Qq fs pre;omega
   have c60:=kc.cell 0;clear he kc hbw hgr hs5;cases hct:pJ fs x.f with
   |true =>
    rw[hct] at c60;gi_wp2_with fail;rw[hct] at HSN;have e:jT fs (pre ++ [x])=jT fs pre:=HSN.out;exact⟨HKS.out.from _,HKPW.out,⟨v,HVB2.out,by rw[e];exact HVR2.out,trivial⟩,HKP.out.trans HKPW.out,hs2⟩
   |false =>
    rw[hct] at c60 HSN;have e:jT fs (pre ++ [x])=jT fs pre ++ [x.f.key]:=HSN.out;have HE:=Hd e;clear HSN e hct;have cO:=HVB2.out.cell;have c50:=(HKX2.out.cell 0).trans (show _=some (.string ⟨x.f.key.toArray⟩) from rfl);generalize hLV:jT fs pre=lv at *;gi_wp2_with (gi_at_builtin;refine wpListIn_append_own _ rfl _ _ 45 rfl w3.heap.size 9 i0 (.string ⟨#[]⟩) 1 16 Tryz.underlying45 HINF.out.1 HINF.out.2.1 HINF.out.2.2.1 HINF.out.2.2.2 rfl (by decide) _ _ _ rfl (HVR2.out.alloc _) ⟨W2.heap.size,0,none⟩ 1 1 [.string ⟨x.f.key.toArray⟩] rfl rfl (cell_one_new _ _ _) (by simp[Value.oneCell']) (by unfold maxLen;omega) (by omega) (by simp;omega) ?_;intro v' w1 hown' hgrow _;obtain⟨g',cap',rfl⟩:=ownsRow_succ hown';obtain⟨hv1,hv2,hr2,hk2,hb2⟩:=Dc HVB2.out (by decide) HVR2.out hs2 (fun j hj=>(HPP.out j).1 hj) hown' hgrow;have hc1:=hv1.cell;have hf1:=hv1.frozen;have HE1:=Hd hv2;have HE2:=Hd hr2;have HE3:=Hd hk2;have HE4:=Hd hb2;clear hv2 hr2 hk2 hb2 hown' hgrow);exact⟨(HKS.out.trans HE3.out).from _,HKPW.out.trans HE4.out,⟨_,HE1.out,by rw[HE.out];simpa[iS] using HE2.out,trivial⟩,(HKP.out.trans HKPW.out).trans HE4.out,Nat.le_trans hs2 HE4.out.size⟩
  case stop2 =>
   rintro c pre W _ h;exact h.elim
 case done =>
  rintro D ys W hD rfl ⟨⟨v,hvb,hvr,_⟩,hk,hsz⟩ hK;have cO:=hvb.cell;have HB:=Hd (HBW.out W hk);have HK:=Hd hK;have HVR:=Hd hvr;have HHD:=Hd hD;clear hvb hvr hk hK hD;gi_wp2;refine⟨by simp,.inl ⟨_,_,rfl,run_takeDeferred HK.out,?_⟩⟩;refine⟨_,results_tmp2 rfl _ _ _,⟨v,rfl,?_⟩,HB.out.trans (belowK_b (w:=w) (Nl _) W D _ _ (by have:=HB3.out.size;have:=HHD.out;omega) HK.out rfl rfl)⟩;have e:=Qr xs;rw[←HFS.out] at e;rw[←e];exact Ck (ownsRow_putObj HVR.out _ HK.out rfl) HB3.out.size
 case stop =>
  rintro D c pre W _ _ h _;exact h.elim
end
end Go.Proofs.YtbcebibkpfklnaaGreatDoor
