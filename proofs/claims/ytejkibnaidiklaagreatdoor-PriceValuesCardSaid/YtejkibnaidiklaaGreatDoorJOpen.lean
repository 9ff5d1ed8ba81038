/- LotAll AgingP Open OpenFacts -/
import Derived.Test.YtejkibnaidiklaaGreatDoorJAdd
import Derived.Test.YtejkibnaidiklaaGreatDoorJLots
import Derived.Test.YtejkibnaidiklaaGreatDoorJDate
import Derived.Test.YtejkibnaidiklaaGreatDoorRows
import Derived.Test.YtejkibnaidiklaaGreatDoorJFact
import Derived.Maps.AppendAt
import Derived.ProofKit
import Derived.OpenShut
import Derived.LaidMore
import Derived.Lay
import Derived.WideKeyArgs
import Derived.Deep.Slices
import Derived.HandedShaped
import Derived.Shelf.Vars
import Derived.Stop.Joined
set_option maxHeartbeats 16000000
set_option maxRecDepth 100000
namespace Go.Proofs.YtejkibnaidiklaaGreatDoor
section
open Go.RowKit Num Dt
def Mx(w:World)(a:Option Addr)(zs:List Int):Prop :=
 zs=[]∨∃b off,a=some ⟨b,off,none⟩∧b<w.heap.size∧∀k z,zs[k]?=some z→w.cell? ⟨b,off+k,none⟩=some (.int .i64 z)
theorem Mx.below{w w':World}{a:Option Addr}{zs:List Int}(h:Mx w a zs)(hb:Below w.heap.size w w'):Mx w' a zs:=by
 rcases h with h|⟨b,off,ha,hlt,hc⟩
 ·exact .inl h
 ·exact .inr ⟨b,off,ha,Nat.lt_of_lt_of_le hlt hb.size,fun k z hz=>(hb.cell (p:=⟨b,off+k,none⟩) hlt).trans (hc k z hz)⟩
theorem Mx.addr{w:World}{a:Option Addr}{zs:List Int}(h:Mx w a zs){k:Nat}{z:Int}(hz:zs[k]?=some z):
  ∃b off,a=some ⟨b,off,none⟩∧w.cell? ⟨b,off+k,none⟩=some (.int .i64 z):=by
 rcases h with h|⟨b,off,ha,_,hc⟩
 ·rw[h] at hz;simp at hz
 ·exact⟨b,off,ha,hc k z hz⟩
def Two(w:World)(base:Nat)(e:TypeId)(size:Nat)(x y:Value)(n m:Nat)(xs ys:List Value):Prop :=
 w.ownsRow base e size x n xs∧w.ownsRow base e size y m ys∧(x.ownBlock=none∨y.ownBlock=none∨x.ownBlock≠y.ownBlock)
theorem Two.below{w w':World}{base:Nat}{e:TypeId}{size:Nat}{x y:Value}{n m:Nat}{xs ys:List Value}(h:Two w base e size x y n m xs ys)(hb:Below w.heap.size w w'):Two w' base e size x y n m xs ys :=
 have hg:w.grownBy w' none:=⟨hb.os,hb.tape,hb.output,hb.size,fun k hk _=>hb.block k hk⟩
 have hne:∀v:Value,v.ownBlock=none∨v.ownBlock≠none:=fun _=>Classical.em _
 ⟨h.1.kept hg (hne x),h.2.1.kept hg (hne y),h.2.2⟩
theorem Two.step{w w':World}{base:Nat}{e:TypeId}{size:Nat}{x y x':Value}{n m n':Nat}{xs ys xs':List Value}(h:Two w base e size x y n m xs ys)(hx:w'.ownsRow base e size x' n' xs')(hg:w.grownBy w' x.ownBlock)(hl:x'.ownBlock=x.ownBlock∨x'.ownBlock=some w.heap.size):
  Two w' base e size x' y n' m xs' ys:=by
 obtain⟨h1,h2,h3⟩:=h;refine⟨hx,h2.kept hg ?_,?_⟩
 ·rcases h3 with h|h|h
  ·rw[h];exact Classical.em _
  ·exact .inl h
  ·exact .inr (Ne.symm h)
 ·rcases hl with hl|hl
  ·rw[hl];exact h3
  ·cases hy:y.ownBlock with
   |none=>exact .inr (.inl rfl)
   |some k =>
    have:=(h2.lt k hy).2;refine .inr (.inr ?_);rw[hl];intro e;injection e with e
    omega
theorem Ut{w w':World}{base:Nat}{e:TypeId}{size:Nat}{x:Value}{n:Nat}{xs:List Value}{w0:World}(h:w.ownsRow base e size x n xs)(hg:w.grownBy w' x.ownBlock)(hb:Below base w0 w)(hB:base≤w.heap.size):Below base w0 w' :=
 hb.grown hg hB (fun k hk=>(h.lt k hk).1)
end
section
open Go.RowKit Num Dt Go.ChangeShapes Go.WideShapes Go.ChangeAt
section
variable {H:Type}{enc:TypeId×Value→H}{P:Program}{w:World}{base:Nat}{sp:Nat→Bool}{held:Bool}
theorem qM{cs:List Value}{j:Nat}{v:Value}(h:(cs.drop j).take 1=[v]):cs[j]?=some v:=by
 have:((cs.drop j).take 1)[0]?=some v:=by rw[h];rfl
 simpa using this
theorem iB{t:TypeId}{cs:List Value}{j n:Nat}{y:DataW H×List MemPlace}(hu:P.underlying t=some .string)(hc:P.cellsOf t=1)(h:DataW.trod enc P w base sp held n t ((cs.drop j).take (P.cellsOf t))=some y):
  ∃l:List UInt8,cs[j]?=some (Pm l)∧l.length≤maxLen:=by
 rw[hc] at h;obtain⟨s,e1,_,hs⟩:=DataW.trod_string hu h;refine⟨s.data.toList,?_,by simpa using hs⟩;rw[qM e1]
end
section
variable {H:Type}{enc:TypeId×Value→H}{w:World}{base:Nat}{held:Bool}
end
theorem tP{P:Program}{w:World}:∀ {l:List (String×DataW Unit)}{ps:List MemPlace},DataW.LaidVars P w l ps→∀n d,(n,d)∈l →
  ∃g t cs fuel p,P.globalNamed n=some g∧(P.globals[g]?).map (·.type)=some t∧w.var? P n=some cs∧DataW.trod (fun _=>()) P w 0 (fun _=>true) false fuel t cs.toList=some (d,p)
 | [],_,_,n,d,hm=>by simp at hm
 |(n',d')::r,ps,h,n,d,hm=>by
  obtain⟨g,t,cs,fuel,p,q,hg,ht,hv,hd,hr,_⟩:=h;rcases List.mem_cons.1 hm with e|hm
  ·injection e with e1 e2
   subst e1 e2;exact⟨g,t,cs,fuel,p,hg,ht,hv,hd⟩
  ·exact tP hr n d hm
theorem aE1 : Tryz.prog.globalNamed "internal/strconv.uint64pow10" = some 2 := by kernel_rfl
theorem aEz : Tryz.prog.globalNamed "strconv.ErrSyntax" = some 0 := by kernel_rfl
theorem aE0 : Tryz.prog.globalNamed "strconv.ErrRange" = some 1 := by kernel_rfl
theorem aEt:(Tryz.prog.globals[2]?).map (·.type)=some 268:=by kernel_rfl
theorem aEr:(Tryz.prog.globals[0]?).map (·.type)=some 136:=by kernel_rfl
theorem aEs:(Tryz.prog.globals[1]?).map (·.type)=some 136:=by kernel_rfl
theorem Lt{W:World}{laid:List (String×DataW Unit)}{n1 n2:String}{d1 d2:DataW Unit}(hs:W.ShapedOpen Tryz.prog)
  (h1 : ("internal/strconv.uint64pow10", Lib.tabData .u64 Lib.pow10Tab) ∈ laid) (h2 : ("strconv.ErrSyntax", .iface n1 d1) ∈ laid) (h3 : ("strconv.ErrRange", .iface n2 d2) ∈ laid)
  (h:laidMet Tryz.prog laid W):iE W:=by
 obtain⟨ps,hl,_,_⟩:=h;refine⟨?_,?_,?_,?_⟩
 ·obtain⟨g,t,cs,fuel,p,hg,ht,hv,hd⟩:=tP hl _ _ h1;obtain rfl:=Option.some.inj (aE1.symm.trans hg);obtain rfl:=Option.some.inj (aEt.symm.trans ht);unfold Lib.TabIs;rw[hv,←Lib.cells_of_tab Tryz.underlying268 Tryz.underlying134 (by kernel_rfl) (by kernel_rfl) hd]
 ·obtain⟨g,t,cs,fuel,p,hg,ht,hv,hd⟩:=tP hl _ _ h2;obtain rfl:=Option.some.inj (aEz.symm.trans hg);obtain rfl:=Option.some.inj (aEr.symm.trans ht);obtain⟨_,u,v,e,_⟩:=iface_of_trod Tryz.underlying136 hd;refine⟨u,v,?_⟩;rw[World.var?_cell hg hv 0,Array.eq_one_of_toList e];rfl
 ·obtain⟨g,t,cs,fuel,p,hg,ht,hv,hd⟩:=tP hl _ _ h3;obtain rfl:=Option.some.inj (aE0.symm.trans hg);obtain rfl:=Option.some.inj (aEs.symm.trans ht);obtain⟨_,u,v,e,_⟩:=iface_of_trod Tryz.underlying136 hd;refine⟨u,v,?_⟩;rw[World.var?_cell hg hv 0,Array.eq_one_of_toList e];rfl
 ·exact cell_of_shapedOpen_int (t:=3) (zero:=#[.int .i64 0]) hs (of_decide_eq_true (by kernel_rfl)) (by kernel_rfl) rfl (by kernel_rfl) (by kernel_rfl) Tryz.underlying3
theorem oZ{H:Type}{enc:TypeId×Value→H}{C:Checked}{os:Os}{f:FuncId}{fn:Func}{s:ChangeSpec}{conds:List PathCond}{apart fresh handsOn again:Bool}{X:World→Array Value→Prop}
  (hX:∀(w w':World) (args:Array Value),w.heap=w'.heap→X w args→X w' args)
  (own:ownKnob C.prog.godebug=none) (started:os.Started) (noInit:C.prog.inits.idxOf? f=none) (hfn:C.prog.funcs[f]?=some fn)
  (witness:∃(w:World) (tape:Tape) (i:Input),w.os=os∧(w.forCall tape i).Shaped C.prog∧i.vars=[]∧Input.okWide C.prog (w.forCall tape i) .any w.heap.size f i ∧
   ((s.pre enc C.prog fn conds apart (w.forCall tape i).memory i.args∧X (w.forCall tape i).memory i.args)∧sizedMet enc C.prog fn (OpenSpec.ofChange s) apart (w.forCall tape i).memory i.args)∧Assume.holds {} C.prog (lone (Frame.enter C.prog f i.args .normal) [] (w.forCall tape i)))
  (contract:∀(W:World) (base:Nat) (args:Array Value) (ds gs:List (DataW H)) (before:List MemPlace),
   (∀(j:Nat) t v,fn.params[j]?=some t→args[j]?=some v→Value.okWide C.prog W .any base t v) →
   DataW.Whole enc C.prog fn.params.toList s.vars apart W args.toList ds gs before→W.ShapedOpen C.prog→X W args →
   Calls C.prog f args W fun e W'=>∃v,e=.returned v∧s.post enc C.prog fn apart fresh handsOn again W args v W') :
  ReturnsInHanded {} C os f .any (fun w args=>(s.pre enc C.prog fn conds apart w args∧X w args)∧sizedMet enc C.prog fn (OpenSpec.ofChange s) apart w args) (s.post enc C.prog fn apart fresh handsOn again):=by
 refine returnsInHanded_of_calls own started noInit witness ?_;intro w tape i _ hsh _ hok hpre hholds;obtain⟨_,_,_,fn',hfn',_,_,_,_,hval⟩:=hok;have e:fn'=fn:=Option.some.inj (hfn'.symm.trans hfn);subst e;obtain⟨⟨⟨ds,gs,before,hw,hc⟩,hx⟩,hz⟩:=hpre;have hw':=DataW.Whole.of_heap (w':=w.forCall tape i) (by rfl) hw;refine(contract (w.forCall tape i) w.heap.size i.args ds gs before hval hw' hsh (hX _ _ _ (by rfl) hx)).mono fun e W' ⟨v,he,hp⟩=>?_
 subst he;exact ChangeSpec.post_blind hp
end
section
open Go.RowKit Num Dt Go.ChangeShapes Go.WideShapes Go.ChangeAt
structure aF where
 f:aE
 pa:Option Addr
 pc:Nat
 oa:Option Addr
 oc:Nat
def aF.arr(x:aF):Array Value:=x.f.cells x.pa x.pc x.oa x.oc
def aF.cells(x:aF):List Value:=x.arr.toList
def fS(w:World)(a:Option Addr)(xs:List aF):Prop:=gJ w a 21 (xs.map aF.cells)∧∀x,x∈xs→x.f.Behind w x.pa x.oa
theorem fS.below{w w':World}{a:Option Addr}{xs:List aF}(h:fS w a xs)(hb:Below w.heap.size w w'):fS w' a xs:=⟨h.1.below hb,fun x hx=>(h.2 x hx).below hb⟩
section
variable {H:Type}{enc:TypeId×Value→H}{P:Program}{w:World}{base:Nat}{sp:Nat→Bool}{held:Bool}
end
section
variable {H:Type}{enc:TypeId×Value→H}{w:World}{base:Nat}{held:Bool}
end
end
end Go.Proofs.YtejkibnaidiklaaGreatDoor
