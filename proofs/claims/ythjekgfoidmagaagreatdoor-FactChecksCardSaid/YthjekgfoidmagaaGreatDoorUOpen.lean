/- LotAll AgingP Open OpenFacts -/
import Derived.Test.YthjekgfoidmagaaGreatDoorUDate
import Derived.Test.YthjekgfoidmagaaGreatDoorRows
import Derived.Test.YthjekgfoidmagaaGreatDoorUFact
import Derived.Maps.AppendAt
import Derived.ProofKit
import Derived.OpenShut
import Derived.LaidMore
import Derived.Lay
import Derived.Deep.Slices
import Derived.HandedShaped
import Derived.Stop.Joined
set_option maxHeartbeats 16000000
set_option maxRecDepth 100000
namespace Go.Proofs.YthjekgfoidmagaaGreatDoor
open Go.Proofs.Tryz
section
open Go.RowKit Num Dt
def Mx(w:World)(a:Option Addr)(zs:List Int):Prop :=
 zs=[]∨∃b off,a=some ⟨b,off,none⟩/\b<w.heap.size/\∀k z,zs[k]?=some z->w.cell? ⟨b,off+k,none⟩=some (.int .i64 z)
theorem Mx.below{w w':World}{a:Option Addr}{zs:List Int}(h:Mx w a zs)(hb:Below w.heap.size w w'):Mx w' a zs:=by
 rcases h with h|⟨b,off,ha,hlt,hc⟩
 ·exact .inl h
 ·exact .inr ⟨b,off,ha,Nat.lt_of_lt_of_le hlt hb.size,fun k z hz=>(hb.cell (p:=⟨b,off+k,none⟩) hlt).trans (hc k z hz)⟩
theorem Mx.addr{w:World}{a:Option Addr}{zs:List Int}(h:Mx w a zs){k:Nat}{z:Int}(hz:zs[k]?=some z):
  ∃b off,a=some ⟨b,off,none⟩/\w.cell? ⟨b,off+k,none⟩=some (.int .i64 z):=by
 rcases h with h|⟨b,off,ha,_,hc⟩
 ·rw[h] at hz;simp at hz
 ·exact⟨b,off,ha,hc k z hz⟩
def Two(w:World)(base:Nat)(e:TypeId)(size:Nat)(x y:Value)(n m:Nat)(xs ys:List Value):Prop :=
 w.ownsRow base e size x n xs/\w.ownsRow base e size y m ys/\(x.ownBlock=none∨y.ownBlock=none∨x.ownBlock≠y.ownBlock)
theorem Two.below{w w':World}{base:Nat}{e:TypeId}{size:Nat}{x y:Value}{n m:Nat}{xs ys:List Value}(h:Two w base e size x y n m xs ys)(hb:Below w.heap.size w w'):Two w' base e size x y n m xs ys :=
 have hg:w.grownBy w' none:=⟨hb.os,hb.tape,hb.output,hb.size,fun k hk _=>hb.block k hk⟩
 have hne:∀v:Value,v.ownBlock=none∨v.ownBlock≠none:=fun _=>Classical.em _
 ⟨h.1.kept hg (hne x),h.2.1.kept hg (hne y),h.2.2⟩
theorem Two.step{w w':World}{base:Nat}{e:TypeId}{size:Nat}{x y x':Value}{n m n':Nat}{xs ys xs':List Value}(h:Two w base e size x y n m xs ys)(hx:w'.ownsRow base e size x' n' xs')(hg:w.grownBy w' x.ownBlock)(hl:x'.ownBlock=x.ownBlock∨x'.ownBlock=some w.heap.size):
  Two w' base e size x' y n' m xs' ys:=by
 obtain⟨h1,h2,h3⟩:=h;refine⟨hx,h2.kept hg ?_,?_⟩
 ·rcases h3 with h|h|h
  ·rw[h];exact Classical.em _
  ·exact .inl h
  ·exact .inr (Ne.symm h)
 ·rcases hl with hl|hl
  ·rw[hl];exact h3
  ·cases hy:y.ownBlock with
   |none=>exact .inr (.inl rfl)
   |some k =>
    have:=(h2.lt k hy).2;refine .inr (.inr ?_);rw[hl];intro e;injection e with e
    omega
theorem Ut{w w':World}{base:Nat}{e:TypeId}{size:Nat}{x:Value}{n:Nat}{xs:List Value}{w0:World}(h:w.ownsRow base e size x n xs)(hg:w.grownBy w' x.ownBlock)(hb:Below base w0 w)(hB:base<=w.heap.size):Below base w0 w' :=
 hb.grown hg hB (fun k hk=>(h.lt k hk).1)
end
section
open Go.RowKit Num Dt Go.ChangeShapes Go.WideShapes Go.ChangeAt
section
variable {H:Type}{enc:TypeId×Value->H}{P:Program}{w:World}{base:Nat}{sp:Nat->Bool}{held:Bool}
theorem qM{cs:List Value}{j:Nat}{v:Value}(h:(cs.drop j).take 1=[v]):cs[j]?=some v:=by
 have:((cs.drop j).take 1)[0]?=some v:=by rw[h];rfl
 simpa using this
theorem iB{t:TypeId}{cs:List Value}{j n:Nat}{y:DataW H×List MemPlace}(hu:P.underlying t=some .string)(hc:P.cellsOf t=1)(h:DataW.trod enc P w base sp held n t ((cs.drop j).take (P.cellsOf t))=some y):
  ∃l:List UInt8,cs[j]?=some (Pm l)/\l.length<=maxLen:=by
 rw[hc] at h;obtain⟨s,e1,_,hs⟩:=DataW.trod_string hu h;refine⟨s.data.toList,?_,by simpa using hs⟩;rw[qM e1]
theorem yI{t:TypeId}{k:IntKind}{cs:List Value}{j n:Nat}{y:DataW H×List MemPlace}(hu:P.underlying t=some (.int k))(hc:P.cellsOf t=1)(h:DataW.trod enc P w base sp held n t ((cs.drop j).take (P.cellsOf t))=some y):
  ∃z:Int,cs[j]?=some (.int k z)/\(Lit.int k z).wf=true:=by
 rw[hc] at h;obtain⟨z,e1,_,hs⟩:=DataW.trod_int hu h;exact⟨z,qM e1,hs⟩
theorem Dv{α:Type}{n:Nat}{p:Nat->α->Prop}(h:∀i,i<n->∃x,p i x):∃l:List α,l.length=n/\∀(i:Nat) (x:α),l[i]?=some x->p i x:=by
 induction n with
 |zero=>exact⟨[],rfl,fun i x hx=>by simp at hx⟩
 |succ n ih =>
  obtain⟨l,hl,hp⟩:=ih (fun i hi=>h i (by omega));obtain⟨x,hx⟩:=h n (by omega);refine⟨l ++ [x],by simp[hl],fun i y hy=>?_⟩
  by_cases hi:i<l.length
  ·rw[List.getElem?_append_left hi] at hy;exact hp i y hy
  ·rw[List.getElem?_append_right (by omega)] at hy;have h0:i-l.length=0:=by
    rcases Nat.eq_zero_or_pos (i-l.length) with h|h
    ·exact h
    ·rw[List.getElem?_eq_none (by simp;omega)] at hy;cases hy
   rw[h0] at hy;simp at hy;subst hy;obtain rfl:i=n:=by omega
   exact hx
end
section
variable {H:Type}{enc:TypeId×Value->H}{w:World}{base:Nat}{held:Bool}
end
theorem tP{P:Program}{w:World}:∀ {l:List (String×DataW Unit)}{ps:List MemPlace},DataW.LaidVars P w l ps->∀n d,(n,d)∈l ->
  ∃g t cs fuel p,P.globalNamed n=some g/\(P.globals[g]?).map (·.type)=some t/\w.var? P n=some cs/\DataW.trod (fun _=>()) P w 0 (fun _=>true) false fuel t cs.toList=some (d,p)
 | [],_,_,n,d,hm=>by simp at hm
 |(n',d')::r,ps,h,n,d,hm=>by
  obtain⟨g,t,cs,fuel,p,q,hg,ht,hv,hd,hr,_⟩:=h;rcases List.mem_cons.1 hm with e|hm
  ·injection e with e1 e2
   subst e1 e2;exact⟨g,t,cs,fuel,p,hg,ht,hv,hd⟩
  ·exact tP hr n d hm
theorem aE1 : prog.globalNamed "internal/strconv.uint64pow10" = some 1 := by kernel_rfl
theorem aEz : prog.globalNamed "strconv.ErrSyntax" = some 2 := by kernel_rfl
theorem aE0 : prog.globalNamed "strconv.ErrRange" = some 3 := by kernel_rfl
theorem aEt:(prog.globals[1]?).map (·.type)=some 275:=by kernel_rfl
theorem aEr:(prog.globals[2]?).map (·.type)=some 135:=by kernel_rfl
theorem aEs:(prog.globals[3]?).map (·.type)=some 135:=by kernel_rfl
theorem Lt{W:World}{laid:List (String×DataW Unit)}{n1 n2:String}{d1 d2:DataW Unit}(hs:W.ShapedOpen prog)
  (h1 : ("internal/strconv.uint64pow10", Lib.tabData .u64 Lib.pow10Tab) ∈ laid) (h2 : ("strconv.ErrSyntax", .iface n1 d1) ∈ laid) (h3 : ("strconv.ErrRange", .iface n2 d2) ∈ laid)
  (h:laidMet prog laid W):iE W:=by
 obtain⟨ps,hl,_,_⟩:=h;refine⟨?_,?_,?_,?_⟩
 ·obtain⟨g,t,cs,fuel,p,hg,ht,hv,hd⟩:=tP hl _ _ h1;obtain rfl:=Option.some.inj (aE1.symm.trans hg);obtain rfl:=Option.some.inj (aEt.symm.trans ht);unfold Lib.TabIs;rw[hv,<-Lib.cells_of_tab underlying275 underlying182 (by kernel_rfl) (by kernel_rfl) hd]
 ·obtain⟨g,t,cs,fuel,p,hg,ht,hv,hd⟩:=tP hl _ _ h2;obtain rfl:=Option.some.inj (aEz.symm.trans hg);obtain rfl:=Option.some.inj (aEr.symm.trans ht);obtain⟨_,u,v,e,_⟩:=iface_of_trod underlying135 hd;refine⟨u,v,?_⟩;rw[World.var?_cell hg hv 0,Array.eq_one_of_toList e];rfl
 ·obtain⟨g,t,cs,fuel,p,hg,ht,hv,hd⟩:=tP hl _ _ h3;obtain rfl:=Option.some.inj (aE0.symm.trans hg);obtain rfl:=Option.some.inj (aEs.symm.trans ht);obtain⟨_,u,v,e,_⟩:=iface_of_trod underlying135 hd;refine⟨u,v,?_⟩;rw[World.var?_cell hg hv 0,Array.eq_one_of_toList e];rfl
 ·exact cell_of_shapedOpen_int (t:=3) (zero:=#[.int .i64 0]) hs (of_decide_eq_true (by kernel_rfl)) (by kernel_rfl) rfl (by kernel_rfl) (by kernel_rfl) underlying3
theorem oZ{H:Type}{enc:TypeId×Value->H}{C:Checked}{os:Os}{f:FuncId}{fn:Func}{s:ChangeSpec}{conds:List PathCond}{apart fresh handsOn again:Bool}{X:World->Array Value->Prop}
  (hX:∀(w w':World) (args:Array Value),w.heap=w'.heap->X w args->X w' args)
  (own:ownKnob C.prog.godebug=none) (started:os.Started) (noInit:C.prog.inits.idxOf? f=none) (hfn:C.prog.funcs[f]?=some fn)
  (witness:∃(w:World) (tape:Tape) (i:Input),w.os=os/\(w.forCall tape i).Shaped C.prog/\i.vars=[]/\Input.okWide C.prog (w.forCall tape i) .any w.heap.size f i /\
   ((s.pre enc C.prog fn conds apart (w.forCall tape i).memory i.args/\X (w.forCall tape i).memory i.args)/\sizedMet enc C.prog fn (OpenSpec.ofChange s) apart (w.forCall tape i).memory i.args)/\Assume.holds {} C.prog (lone (Frame.enter C.prog f i.args .normal) [] (w.forCall tape i)))
  (contract:∀(W:World) (base:Nat) (args:Array Value) (ds gs:List (DataW H)) (before:List MemPlace),
   (∀(j:Nat) t v,fn.params[j]?=some t->args[j]?=some v->Value.okWide C.prog W .any base t v) ->
   DataW.Whole enc C.prog fn.params.toList s.vars apart W args.toList ds gs before->W.ShapedOpen C.prog->X W args ->
   Calls C.prog f args W fun e W'=>∃v,e=.returned v/\s.post enc C.prog fn apart fresh handsOn again W args v W') :
  ReturnsInHanded {} C os f .any (fun w args=>(s.pre enc C.prog fn conds apart w args/\X w args)/\sizedMet enc C.prog fn (OpenSpec.ofChange s) apart w args) (s.post enc C.prog fn apart fresh handsOn again):=by
 refine returnsInHanded_of_calls own started noInit witness ?_;intro w tape i _ hsh _ hok hpre hholds;obtain⟨_,_,_,fn',hfn',_,_,_,_,hval⟩:=hok;have e:fn'=fn:=Option.some.inj (hfn'.symm.trans hfn);subst e;obtain⟨⟨⟨ds,gs,before,hw,hc⟩,hx⟩,hz⟩:=hpre;have hw':=DataW.Whole.of_heap (w':=w.forCall tape i) (by rfl) hw;refine(contract (w.forCall tape i) w.heap.size i.args ds gs before hval hw' hsh (hX _ _ _ (by rfl) hx)).mono fun e W' ⟨v,he,hp⟩=>?_
 subst he;exact ChangeSpec.post_blind hp
end
section
open Go.RowKit Num Dt Go.ChangeShapes Go.WideShapes Go.ChangeAt
structure aF where
 f:aE
 pa:Option Addr
 pc:Nat
 oa:Option Addr
 oc:Nat
def aF.arr(x:aF):Array Value:=x.f.cells x.pa x.pc x.oa x.oc
def aF.cells(x:aF):List Value:=x.arr.toList
def bZ.fits(f:bZ):Prop:=f.n.length<=maxLen/\f.d.length<=maxLen
structure aF.fits(x:aF):Prop where
 picks:x.f.picks.length<=x.pc
 options:x.f.options.length<=x.oc
 npicks:x.f.picks.length<=maxLen
 noptions:x.f.options.length<=maxLen
 key:x.f.key.length<=maxLen
 ins:x.f.ins.length<=maxLen
 other:x.f.other.length<=maxLen
 cur:x.f.cur.length<=maxLen
 target:x.f.target.length<=maxLen
 q:x.f.q.length<=maxLen
 amt:x.f.amt.length<=maxLen
 fee:x.f.fee.length<=maxLen
 price:x.f.price.fits
 ratio:x.f.ratio.fits
 share:x.f.share.fits
 pick:∀p,p∈x.f.picks->p.lot.length<=maxLen/\p.q.length<=maxLen
 option:∀o,o∈x.f.options->o.other.length<=maxLen/\o.ratio.fits/\o.price.fits/\o.value.fits
 stamp:(Lit.int .i64 x.f.stamp).wf=true
 day:(Lit.int .i64 x.f.day).wf=true
 kind:(Lit.int .i64 x.f.kind).wf=true
 choice:(Lit.int .i64 x.f.choice).wf=true
def fS(w:World)(a:Option Addr)(xs:List aF):Prop:=gJ w a 21 (xs.map aF.cells)/\∀x,x∈xs->x.f.Behind w x.pa x.oa
theorem fS.below{w w':World}{a:Option Addr}{xs:List aF}(h:fS w a xs)(hb:Below w.heap.size w w'):fS w' a xs:=⟨h.1.below hb,fun x hx=>(h.2 x hx).below hb⟩
section
variable {H:Type}{enc:TypeId×Value->H}{P:Program}{w:World}{base:Nat}{sp:Nat->Bool}{held:Bool}
theorem Us{t:TypeId}{cs:List Value}{j n:Nat}{y:DataW H×List MemPlace}(hu:P.underlying t=some .bool)(hc:P.cellsOf t=1)(h:DataW.trod enc P w base sp held n t ((cs.drop j).take (P.cellsOf t))=some y):
  ∃z:Bool,cs[j]?=some (.bool z):=by
 rw[hc] at h;obtain⟨z,e1,_⟩:=DataW.trod_bool hu h;exact⟨z,qM e1⟩
theorem xA{t e:TypeId}{N n0:Nat}(hN:0<N){cells:List Value}{y:DataW H×List MemPlace}(ht:P.underlying t=some (.slice e))(hc:P.cellsOf e=N)(h:DataW.trod enc P w 0 (fun _=>true) held n0 t cells=some y):
  ∃(a:Option Addr) (n c:Nat),cells=[.slice a n c]/\n<=c/\n<=maxLen/\(n=0∨∃b off,a=some ⟨b,off,none⟩/\b<w.heap.size/\∀i,i<n->∃(cs:List Value) (m:Nat) (y:DataW H×List MemPlace),cs.length=N/\(∀j,j<N->w.cell? ⟨b,off+i*N+j,none⟩=cs[j]?)/\DataW.trod enc P w 0 (fun _=>true) held m e cs=some y):=by
 rcases Deep.open_slice ht h with⟨hcs,_⟩|⟨a',len,cap,m,n',D,Pl,hcs,_,hl,hm,hmm,_,hx⟩
 ·exact⟨none,0,0,hcs,Nl _,Nat.zero_le _,.inl rfl⟩
 ·simp at hmm;subst hmm;rw[hc] at hx;refine⟨some a',len,m,hcs,hl,by omega,?_⟩
  by_cases h0:len=0
  ·exact .inl h0
  ·have hcell:∀i,i<len->∃(cs:List Value) (m:Nat) (y:DataW H×List MemPlace),cs.length=N/\(∀j,j<N->w.cell? ((a'.add (i*N)).add j)=cs[j]?)/\DataW.trod enc P w 0 (fun _=>true) held m e cs=some y:=by
    intro i hi;obtain⟨cs',h1,h2⟩:=hx i (by omega);obtain⟨_,hlen,hcc⟩:=World.cells?_some h1;exact⟨cs',_,_,hlen,hcc,h2⟩
   obtain⟨b,off,spot⟩:=a';obtain⟨cs,m',y,hlen,hcc,_⟩:=hcell 0 (by omega);have h00:=hcc 0 hN;rw[Lg (by omega)] at h00;have hsp:spot=none:=by simpa[Addr.add] using World.cell?_spot h00
   subst hsp;refine .inr ⟨b,off,rfl,World.block_lt_of_cell? w _ (by simpa[Addr.add] using h00),fun i hi=>?_⟩;obtain⟨cs,m,y,hlen,hcc,ht⟩:=hcell i hi;exact⟨cs,m,y,hlen,fun j hj=>by rw[<-hcc j hj,lM,lM],ht⟩
end
section
variable {H:Type}{enc:TypeId×Value->H}{w:World}{base:Nat}{held:Bool}
theorem oN{cs:List Value}{j n:Nat}{y:DataW H×List MemPlace}(h:DataW.trod enc prog w 0 (fun _=>true) held n 25 ((cs.drop j).take (prog.cellsOf 25))=some y):
  ∃f:bZ,cs[j]?=some (Pm f.n)/\cs[j+1]?=some (Pm f.d)/\f.fits:=by
 obtain⟨xs,k,_,_,hl,hxl,hf⟩:=DataW.trod_struct underlying25 h;have hc:prog.cellsOf 25=2:=by kernel_rfl
 have hg:∀i,i<2->∃y,xs[i]?=some y:=fun i hi=>⟨_,Lg (by rw[hxl];exact hi)⟩
 obtain⟨y0,g0⟩:=hg 0 (by decide);obtain⟨y1,g1⟩:=hg 1 (by decide);obtain⟨a,e0,l0⟩:=iB underlying23 (by kernel_rfl) ((hf 0 _ rfl).trans g0);obtain⟨b,e1,l1⟩:=iB underlying23 (by kernel_rfl) ((hf 1 _ rfl).trans g1);rw[hc] at e0 e1;rw[List.getElem?_take_of_lt (by decide),List.getElem?_drop] at e0 e1;exact⟨⟨a,b⟩,e0,e1,l0,l1⟩
theorem Dw{α:Type}{xs ys:List α}{n:Nat}(h1:xs.length=n)(h2:ys.length=n)(h:∀i,i<n->xs[i]?=ys[i]?):xs=ys:=by
 apply List.ext_getElem?;intro i
 by_cases hi:i<n
 ·exact h i hi
 ·rw[List.getElem?_eq_none (by omega),List.getElem?_eq_none (by omega)]
theorem yM{a:Option Addr}{b off N:Nat}{css:List (List Value)}(ha:a=some ⟨b,off,none⟩)(hb:b<w.heap.size)(h:∀k cs,css[k]?=some cs->cs.length=N/\∀j,j<N->w.cell? ⟨b,off+k*N+j,none⟩=cs[j]?):gJ w a N css:=by
 refine .inr ⟨b,off,ha,hb,fun k cs hk j v hv=>?_⟩;obtain⟨hl,hc⟩:=h k cs hk;have hj:j<cs.length:=(Li.1 hv).1;rw[hc j (by omega),hv]
theorem Ko{n0:Nat}{cells:List Value}{y:DataW H×List MemPlace}(h:DataW.trod enc prog w 0 (fun _=>true) held n0 26 cells=some y):
  ∃(a:Option Addr) (c:Nat) (ps:List bJ),cells=[.slice a ps.length c]/\ps.length<=c/\ps.length<=maxLen/\gJ w a 2 (ps.map bJ.cells)/\∀p,p∈ps->p.lot.length<=maxLen/\p.q.length<=maxLen:=by
 obtain⟨a,n,c,rfl,hnc,hm,hx⟩:=xA (N:=2) (by decide) underlying26 (by kernel_rfl) h;rcases hx with rfl|⟨b,off,rfl,hb,hx⟩
 ·exact⟨a,c,[],rfl,Nat.zero_le _,Nat.zero_le _,.inl rfl,fun x hx=>by simp at hx⟩
 ·obtain⟨ps,hl,hp⟩:=Dv (α:=bJ) (p:=fun i x=>(∀j,j<2->w.cell? ⟨b,off+i*2+j,none⟩=x.cells[j]?)/\x.lot.length<=maxLen/\x.q.length<=maxLen) (fun i hi=>by
   obtain⟨cs,m,y,hlen,hcc,ht⟩:=hx i hi;obtain⟨xs,k,_,_,_,hxl,hf⟩:=DataW.trod_struct underlying83 ht;have hg:∀i,i<2->∃y,xs[i]?=some y:=fun i hi=>⟨_,Lg (by rw[hxl];exact hi)⟩
   obtain⟨y0,g0⟩:=hg 0 (by decide);obtain⟨y1,g1⟩:=hg 1 (by decide);obtain⟨l,e0,l0⟩:=iB underlying9 (by kernel_rfl) ((hf 0 _ rfl).trans g0);obtain⟨q,e1,l1⟩:=iB underlying23 (by kernel_rfl) ((hf 1 _ rfl).trans g1);refine⟨⟨l,q⟩,fun j hj=>?_,l0,l1⟩;rw[hcc j hj]
   match j,hj with
   |0,_=>exact e0
   |1,_=>exact e1)
  subst hl;refine⟨_,c,ps,rfl,hnc,hm,yM rfl hb fun k cs hk=>?_,fun x hx=>by obtain⟨k,hk⟩:=List.getElem?_of_mem hx;exact(hp k x hk).2⟩;rw[List.getElem?_map] at hk;obtain⟨x,hx,rfl⟩:=Option.map_eq_some_iff.1 hk;exact⟨rfl,(hp k x hx).1⟩
theorem Dn{n0:Nat}{cells:List Value}{y:DataW H×List MemPlace}(h:DataW.trod enc prog w 0 (fun _=>true) held n0 27 cells=some y):
  ∃(a:Option Addr) (c:Nat) (ps:List eJ),cells=[.slice a ps.length c]/\ps.length<=c/\ps.length<=maxLen/\gJ w a 7 (ps.map eJ.cells)/\∀o,o∈ps->o.other.length<=maxLen/\o.ratio.fits/\o.price.fits/\o.value.fits:=by
 obtain⟨a,n,c,rfl,hnc,hm,hx⟩:=xA (N:=7) (by decide) underlying27 (by kernel_rfl) h;rcases hx with rfl|⟨b,off,rfl,hb,hx⟩
 ·exact⟨a,c,[],rfl,Nat.zero_le _,Nat.zero_le _,.inl rfl,fun x hx=>by simp at hx⟩
 ·obtain⟨ps,hl,hp⟩:=Dv (α:=eJ) (p:=fun i x=>(∀j,j<7->w.cell? ⟨b,off+i*7+j,none⟩=x.cells[j]?)/\x.other.length<=maxLen/\x.ratio.fits/\x.price.fits/\x.value.fits) (fun i hi=>by
   obtain⟨cs,m,y,hlen,hcc,ht⟩:=hx i hi;obtain⟨xs,k,_,_,_,hxl,hf⟩:=DataW.trod_struct underlying55 ht;have hg:∀i,i<4->∃y,xs[i]?=some y:=fun i hi=>⟨_,Lg (by rw[hxl];exact hi)⟩
   obtain⟨y0,g0⟩:=hg 0 (by decide);obtain⟨y1,g1⟩:=hg 1 (by decide);obtain⟨y2,g2⟩:=hg 2 (by decide);obtain⟨y3,g3⟩:=hg 3 (by decide);obtain⟨o,e0,l0⟩:=iB underlying9 (by kernel_rfl) ((hf 0 _ rfl).trans g0);obtain⟨r,e1,e2,l1⟩:=oN (j:=1) ((hf 1 _ rfl).trans g1);obtain⟨p,e3,e4,l3⟩:=oN (j:=3) ((hf 2 _ rfl).trans g2);obtain⟨v,e5,e6,l5⟩:=oN (j:=5) ((hf 3 _ rfl).trans g3);refine⟨⟨o,r,p,v⟩,fun j hj=>?_,l0,l1,l3,l5⟩;rw[hcc j hj]
   match j,hj with
   |0,_=>exact e0
   |1,_=>exact e1
   |2,_=>exact e2
   |3,_=>exact e3
   |4,_=>exact e4
   |5,_=>exact e5
   |6,_=>exact e6)
  subst hl;refine⟨_,c,ps,rfl,hnc,hm,yM rfl hb fun k cs hk=>?_,fun x hx=>by obtain⟨k,hk⟩:=List.getElem?_of_mem hx;exact(hp k x hk).2⟩;rw[List.getElem?_map] at hk;obtain⟨x,hx,rfl⟩:=Option.map_eq_some_iff.1 hk;exact⟨rfl,(hp k x hx).1⟩
theorem Oj{t:TypeId}{cs:List Value}{j n:Nat}{y:DataW H×List MemPlace}(hc:prog.cellsOf t=1)(h:DataW.trod enc prog w 0 (fun _=>true) held n t ((cs.drop j).take (prog.cellsOf t))=some y):DataW.trod enc prog w 0 (fun _=>true) held n t ((cs.drop j).take 1)=some y:=by rw[hc] at h;exact h
theorem tK{n0:Nat}{cs:List Value}{y:DataW H×List MemPlace}(h:DataW.trod enc prog w 0 (fun _=>true) held n0 29 cs=some y):
  ∃x:aF,cs=x.cells/\x.f.Behind w x.pa x.oa/\x.fits:=by
 obtain⟨xs,k,_,_,hlen,hxl,hf⟩:=DataW.trod_struct underlying29 h;have hl21:cs.length=21:=hlen.trans (by kernel_rfl);have hg:∀i,i<18->∃y,xs[i]?=some y:=fun i hi=>⟨_,Lg (by rw[hxl];exact hi)⟩
 obtain⟨y0,g0⟩:=hg 0 (by decide);obtain⟨y1,g1⟩:=hg 1 (by decide);obtain⟨y2,g2⟩:=hg 2 (by decide);obtain⟨y3,g3⟩:=hg 3 (by decide);obtain⟨y4,g4⟩:=hg 4 (by decide);obtain⟨y5,g5⟩:=hg 5 (by decide);obtain⟨y6,g6⟩:=hg 6 (by decide);obtain⟨y7,g7⟩:=hg 7 (by decide);obtain⟨y8,g8⟩:=hg 8 (by decide);obtain⟨y9,g9⟩:=hg 9 (by decide);obtain⟨y10,g10⟩:=hg 10 (by decide);obtain⟨y11,g11⟩:=hg 11 (by decide);obtain⟨y12,g12⟩:=hg 12 (by decide);obtain⟨y13,g13⟩:=hg 13 (by decide);obtain⟨y14,g14⟩:=hg 14 (by decide);obtain⟨y15,g15⟩:=hg 15 (by decide);obtain⟨y16,g16⟩:=hg 16 (by decide);obtain⟨y17,g17⟩:=hg 17 (by decide);obtain⟨key,e0,l0⟩:=iB underlying9 (by kernel_rfl) ((hf 0 _ rfl).trans g0);obtain⟨stamp,e1,l1⟩:=yI underlying3 (by kernel_rfl) ((hf 1 _ rfl).trans g1);obtain⟨canc,e2⟩:=Us underlying4 (by kernel_rfl) ((hf 2 _ rfl).trans g2);obtain⟨day,e3,l3⟩:=yI underlying22 (by kernel_rfl) ((hf 3 _ rfl).trans g3);obtain⟨kind,e4,l4⟩:=yI underlying3 (by kernel_rfl) ((hf 4 _ rfl).trans g4);obtain⟨ins,e5,l5⟩:=iB underlying9 (by kernel_rfl) ((hf 5 _ rfl).trans g5);obtain⟨other,e6,l6⟩:=iB underlying9 (by kernel_rfl) ((hf 6 _ rfl).trans g6);obtain⟨cur,e7,l7⟩:=iB underlying9 (by kernel_rfl) ((hf 7 _ rfl).trans g7);obtain⟨target,e8,l8⟩:=iB underlying9 (by kernel_rfl) ((hf 8 _ rfl).trans g8);obtain⟨q,e9,l9⟩:=iB underlying23 (by kernel_rfl) ((hf 9 _ rfl).trans g9);obtain⟨amt,e10,l10⟩:=iB underlying23 (by kernel_rfl) ((hf 10 _ rfl).trans g10);obtain⟨fee,e11,l11⟩:=iB underlying23 (by kernel_rfl) ((hf 11 _ rfl).trans g11);obtain⟨price,e12,e13,l12⟩:=oN (j:=12) ((hf 12 _ rfl).trans g12);obtain⟨ratio,e14,e15,l14⟩:=oN (j:=14) ((hf 13 _ rfl).trans g13);obtain⟨share,e16,e17,l16⟩:=oN (j:=16) ((hf 14 _ rfl).trans g14);obtain⟨pa,pc,ps,hp,hpc,hpm,hpr,hpf⟩:=Ko (Oj (j:=18) (by kernel_rfl) ((hf 15 _ rfl).trans g15));obtain⟨oa,oc,os,ho,hoc,hom,hor,hof⟩:=Dn (Oj (j:=19) (by kernel_rfl) ((hf 16 _ rfl).trans g16));obtain⟨choice,e20,l20⟩:=yI underlying3 (by kernel_rfl) ((hf 17 _ rfl).trans g17);have e18:=qM hp;have e19:=qM ho;refine⟨⟨⟨key,stamp,canc,day,kind,ins,other,cur,target,q,amt,fee,price,ratio,share,ps,os,choice⟩,pa,pc,oa,oc⟩,?_,⟨hpr,hor⟩,⟨hpc,hoc,hpm,hom,l0,l5,l6,l7,l8,l9,l10,l11,l12,l14,l16,hpf,hof,l1,l3,l4,l20⟩⟩;refine Dw hl21 rfl fun i hi=>?_
 match i,hi with
 |0,_=>exact e0
 |1,_=>exact e1
 |2,_=>exact e2
 |3,_=>exact e3
 |4,_=>exact e4
 |5,_=>exact e5
 |6,_=>exact e6
 |7,_=>exact e7
 |8,_=>exact e8
 |9,_=>exact e9
 |10,_=>exact e10
 |11,_=>exact e11
 |12,_=>exact e12
 |13,_=>exact e13
 |14,_=>exact e14
 |15,_=>exact e15
 |16,_=>exact e16
 |17,_=>exact e17
 |18,_=>exact e18
 |19,_=>exact e19
 |20,_=>exact e20
 |n+21,hi=>exact absurd hi (by omega)
end
end
end Go.Proofs.YthjekgfoidmagaaGreatDoor
