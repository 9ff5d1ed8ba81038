/- More13 MoreW13 -/
import Derived.Test.YthjekgfoidmagaaGreatDoorULaw13
import Derived.Test.YthjekgfoidmagaaGreatDoorUInst
set_option maxHeartbeats 16000000
set_option maxRecDepth 100000
namespace Go.Proofs.YthjekgfoidmagaaGreatDoor
open Go.Proofs.Tryz
section
open Go Go.RowKit Num
def bU1:bJ:=⟨[97,47,49],[49]⟩
def bVm:eJ:=⟨[],bD4,bS5,bD4⟩
def bVq(w0 W:World)(a:Option Addr)(ps:List bJ):Prop:=gJ w0 a 2 (ps.map bJ.cells)∨(ps=[bU1]/\∃g,a=some ⟨g,0,none⟩/\aP W g bU1.cells.toArray 83)
def bVz(w0 W:World)(a:Option Addr)(os:List eJ):Prop:=gJ w0 a 7 (os.map eJ.cells)∨(os=[bVm]/\∃g,a=some ⟨g,0,none⟩/\aP W g bVm.cells.toArray 55)
def bTr(w0 W:World)(y:aF):Prop:=bVq w0 W y.pa y.f.picks/\bVz w0 W y.oa y.f.options
def bUc(W W':World):Prop:=∀b cs T,T≠29->T≠47->aP W b cs T->aP W' b cs T
theorem bUc.of_below{W W':World}(h:Below W.heap.size W W'):bUc W W':=fun _ _ _ _ _ hb=>hb.below h
theorem bTr.keep{w0 W W':World}{y:aF}(h:bTr w0 W y)(hk:bUc W W'):bTr w0 W' y :=
 ⟨h.1.imp id fun⟨e,g,ea,hb⟩=>⟨e,g,ea,hk _ _ _ (by decide) (by decide) hb⟩,h.2.imp id fun⟨e,g,ea,hb⟩=>⟨e,g,ea,hk _ _ _ (by decide) (by decide) hb⟩⟩
theorem bUx{W:World}{g N:Nat}{cs:Array Value}{T:TypeId}(h:aP W g cs T):gJ W (some ⟨g,0,none⟩) N [cs.toList]:=by
 refine .inr ⟨g,0,rfl,h.1,fun k c hk j v hv=>?_⟩
 match k,hk with
 |0,hk =>
  obtain rfl:c=cs.toList:=(Option.some.inj hk).symm;rw[Nat.zero_mul];simp only[Nat.zero_add];exact(h.cell j).trans (by rw[<-Array.getElem?_toList];exact hv)
 |k+1,hk=>simp at hk
theorem bTr.behind{w0 W:World}{y:aF}(h:bTr w0 W y)(hb:Below w0.heap.size w0 W):y.f.Behind W y.pa y.oa:=by
 refine⟨?_,?_⟩
 ·rcases h.1 with h1|⟨e,g,ea,h1⟩
  ·exact h1.below hb
  ·rw[e,ea];exact bUx h1
 ·rcases h.2 with h1|⟨e,g,ea,h1⟩
  ·exact h1.below hb
  ·rw[e,ea];exact bUx h1
def bRf(w0 W:World)(b:Nat)(x:aF)(i:Nat)(e:Ending)(w':World):Prop :=
 e=.returned (.tuple #[])/\∃y:aF,y.f=bF7 x.f i/\y.f.picks.length<=y.pc/\aP w' b y.arr 29/\(∀B,B<=b->Below B W w')/\bTr w0 w' y
theorem bVy(w0 W:World)(b:Nat)(x:aF)(hx:x.f.Behind w0 x.pa x.oa)(hc:x.f.picks.length<=x.pc)(hb:aP W b x.arr 29):Calls prog 69 #[.pointer (some ⟨b,0,none⟩)] W (bRf w0 W b x 0):=by
 have c1:=(hb.cell 5).trans (show x.arr[5]?=some _ from rfl);have f1:=aR hb.2 5;have HR:Hid (∀v,x.arr.setIfInBounds 5 v=({ x with f:=bF7 x.f 0 }:aF).arr->bRf w0 W b x 0 (.returned (.tuple #[])) (W.setCell ⟨b,5,none⟩ v)):=fun v hv=>⟨rfl,{ x with f:=bF7 x.f 0 },rfl,hc,by rw[<-hv];exact bGb hb,fun B hB=>(Br _ _).setCell hB _,.inl hx.1,.inl hx.2⟩
 clear hx hc hb;go_enter func69,ntmps69;go_wp2
 first|refine bodyPost_ret (results_none rfl _ _ _) rfl ?_|refine bodyPost_end (results_none rfl _ _ _) rfl ?_
 exact HR.out _ rfl
theorem bVx(w0 W:World)(b:Nat)(x:aF)(hx:x.f.Behind w0 x.pa x.oa)(hc:x.f.picks.length<=x.pc)(hb:aP W b x.arr 29):Calls prog 70 #[.pointer (some ⟨b,0,none⟩)] W (bRf w0 W b x 1):=by
 have c1:=(hb.cell 6).trans (show x.arr[6]?=some _ from rfl);have f1:=aR hb.2 6;have HR:Hid (∀v,x.arr.setIfInBounds 6 v=({ x with f:=bF7 x.f 1 }:aF).arr->bRf w0 W b x 1 (.returned (.tuple #[])) (W.setCell ⟨b,6,none⟩ v)):=fun v hv=>⟨rfl,{ x with f:=bF7 x.f 1 },rfl,hc,by rw[<-hv];exact bGb hb,fun B hB=>(Br _ _).setCell hB _,.inl hx.1,.inl hx.2⟩
 clear hx hc hb;go_enter func70,ntmps70;go_wp2
 first|refine bodyPost_ret (results_none rfl _ _ _) rfl ?_|refine bodyPost_end (results_none rfl _ _ _) rfl ?_
 exact HR.out _ rfl
theorem bVw(w0 W:World)(b:Nat)(x:aF)(hx:x.f.Behind w0 x.pa x.oa)(hc:x.f.picks.length<=x.pc)(hb:aP W b x.arr 29):Calls prog 71 #[.pointer (some ⟨b,0,none⟩)] W (bRf w0 W b x 2):=by
 have c1:=(hb.cell 7).trans (show x.arr[7]?=some _ from rfl);have f1:=aR hb.2 7;have HR:Hid (∀v,x.arr.setIfInBounds 7 v=({ x with f:=bF7 x.f 2 }:aF).arr->bRf w0 W b x 2 (.returned (.tuple #[])) (W.setCell ⟨b,7,none⟩ v)):=fun v hv=>⟨rfl,{ x with f:=bF7 x.f 2 },rfl,hc,by rw[<-hv];exact bGb hb,fun B hB=>(Br _ _).setCell hB _,.inl hx.1,.inl hx.2⟩
 clear hx hc hb;go_enter func71,ntmps71;go_wp2
 first|refine bodyPost_ret (results_none rfl _ _ _) rfl ?_|refine bodyPost_end (results_none rfl _ _ _) rfl ?_
 exact HR.out _ rfl
theorem bVv(w0 W:World)(b:Nat)(x:aF)(hx:x.f.Behind w0 x.pa x.oa)(hc:x.f.picks.length<=x.pc)(hb:aP W b x.arr 29):Calls prog 72 #[.pointer (some ⟨b,0,none⟩)] W (bRf w0 W b x 3):=by
 have c1:=(hb.cell 8).trans (show x.arr[8]?=some _ from rfl);have f1:=aR hb.2 8;have HR:Hid (∀v,x.arr.setIfInBounds 8 v=({ x with f:=bF7 x.f 3 }:aF).arr->bRf w0 W b x 3 (.returned (.tuple #[])) (W.setCell ⟨b,8,none⟩ v)):=fun v hv=>⟨rfl,{ x with f:=bF7 x.f 3 },rfl,hc,by rw[<-hv];exact bGb hb,fun B hB=>(Br _ _).setCell hB _,.inl hx.1,.inl hx.2⟩
 clear hx hc hb;go_enter func72,ntmps72;go_wp2
 first|refine bodyPost_ret (results_none rfl _ _ _) rfl ?_|refine bodyPost_end (results_none rfl _ _ _) rfl ?_
 exact HR.out _ rfl
theorem bVu(w0 W:World)(b:Nat)(x:aF)(hx:x.f.Behind w0 x.pa x.oa)(hc:x.f.picks.length<=x.pc)(hb:aP W b x.arr 29):Calls prog 73 #[.pointer (some ⟨b,0,none⟩)] W (bRf w0 W b x 4):=by
 have c1:=(hb.cell 9).trans (show x.arr[9]?=some _ from rfl);have f1:=aR hb.2 9;have HR:Hid (∀v,x.arr.setIfInBounds 9 v=({ x with f:=bF7 x.f 4 }:aF).arr->bRf w0 W b x 4 (.returned (.tuple #[])) (W.setCell ⟨b,9,none⟩ v)):=fun v hv=>⟨rfl,{ x with f:=bF7 x.f 4 },rfl,hc,by rw[<-hv];exact bGb hb,fun B hB=>(Br _ _).setCell hB _,.inl hx.1,.inl hx.2⟩
 clear hx hc hb;go_enter func73,ntmps73;go_wp2
 first|refine bodyPost_ret (results_none rfl _ _ _) rfl ?_|refine bodyPost_end (results_none rfl _ _ _) rfl ?_
 exact HR.out _ rfl
theorem bVt(w0 W:World)(b:Nat)(x:aF)(hx:x.f.Behind w0 x.pa x.oa)(hc:x.f.picks.length<=x.pc)(hb:aP W b x.arr 29):Calls prog 74 #[.pointer (some ⟨b,0,none⟩)] W (bRf w0 W b x 5):=by
 have c1:=(hb.cell 10).trans (show x.arr[10]?=some _ from rfl);have f1:=aR hb.2 10;have HR:Hid (∀v,x.arr.setIfInBounds 10 v=({ x with f:=bF7 x.f 5 }:aF).arr->bRf w0 W b x 5 (.returned (.tuple #[])) (W.setCell ⟨b,10,none⟩ v)):=fun v hv=>⟨rfl,{ x with f:=bF7 x.f 5 },rfl,hc,by rw[<-hv];exact bGb hb,fun B hB=>(Br _ _).setCell hB _,.inl hx.1,.inl hx.2⟩
 clear hx hc hb;go_enter func74,ntmps74;go_wp2
 first|refine bodyPost_ret (results_none rfl _ _ _) rfl ?_|refine bodyPost_end (results_none rfl _ _ _) rfl ?_
 exact HR.out _ rfl
theorem bVs(w0 W:World)(b:Nat)(x:aF)(hx:x.f.Behind w0 x.pa x.oa)(hc:x.f.picks.length<=x.pc)(hb:aP W b x.arr 29):Calls prog 75 #[.pointer (some ⟨b,0,none⟩)] W (bRf w0 W b x 6):=by
 have c1:=(hb.cell 11).trans (show x.arr[11]?=some _ from rfl);have f1:=aR hb.2 11;have HR:Hid (∀v,x.arr.setIfInBounds 11 v=({ x with f:=bF7 x.f 6 }:aF).arr->bRf w0 W b x 6 (.returned (.tuple #[])) (W.setCell ⟨b,11,none⟩ v)):=fun v hv=>⟨rfl,{ x with f:=bF7 x.f 6 },rfl,hc,by rw[<-hv];exact bGb hb,fun B hB=>(Br _ _).setCell hB _,.inl hx.1,.inl hx.2⟩
 clear hx hc hb;go_enter func75,ntmps75;go_wp2
 first|refine bodyPost_ret (results_none rfl _ _ _) rfl ?_|refine bodyPost_end (results_none rfl _ _ _) rfl ?_
 exact HR.out _ rfl
theorem bVn(w0 W:World)(b:Nat)(x:aF)(hx:x.f.Behind w0 x.pa x.oa)(hc:x.f.picks.length<=x.pc)(hb:aP W b x.arr 29):Calls prog 79 #[.pointer (some ⟨b,0,none⟩)] W (bRf w0 W b x 12):=by
 have c1:=(hb.cell 20).trans (show x.arr[20]?=some _ from rfl);have f1:=aR hb.2 20;have HR:Hid (∀v,x.arr.setIfInBounds 20 v=({ x with f:=bF7 x.f 12 }:aF).arr->bRf w0 W b x 12 (.returned (.tuple #[])) (W.setCell ⟨b,20,none⟩ v)):=fun v hv=>⟨rfl,{ x with f:=bF7 x.f 12 },rfl,hc,by rw[<-hv];exact bGb hb,fun B hB=>(Br _ _).setCell hB _,.inl hx.1,.inl hx.2⟩
 clear hx hc hb;go_enter func79,ntmps79;go_wp2
 first|refine bodyPost_ret (results_none rfl _ _ _) rfl ?_|refine bodyPost_end (results_none rfl _ _ _) rfl ?_
 exact HR.out _ rfl
def bQy:Array Value:=#[.string ⟨#[49]⟩,.string ⟨#[]⟩]
theorem bVr(w0 W:World)(b b5:Nat)(x:aF)(hx:x.f.Behind w0 x.pa x.oa)(hc:x.f.picks.length<=x.pc)(hb:aP W b x.arr 29)(h5:aP W b5 bQy 25):Calls prog 76 #[.pointer (some ⟨b,0,none⟩),.pointer (some ⟨b5,0,none⟩)] W (bRf w0 W b x 8):=by
 have k0:=h5.cell 0;have k1:=h5.cell 1;unfold bQy at k0 k1;have c1:=(hb.cell 14).trans (show x.arr[14]?=some _ from rfl);have f1:=aR hb.2 14;have c2:=(hb.cell 15).trans (show x.arr[15]?=some _ from rfl);have f2:=aR hb.2 15;have HR:Hid (∀v v',(x.arr.setIfInBounds 14 v).setIfInBounds 15 v'=({ x with f:=bF7 x.f 8 }:aF).arr->bRf w0 W b x 8 (.returned (.tuple #[])) ((W.setCell ⟨b,14,none⟩ v).setCell ⟨b,15,none⟩ v')):=fun v v' hv=>⟨rfl,{ x with f:=bF7 x.f 8 },rfl,hc,by rw[<-hv];exact bGb (bGb hb),fun B hB=>((Br _ _).setCell hB _).setCell hB _,.inl hx.1,.inl hx.2⟩
 clear hx hc hb h5;go_enter func76,ntmps76;go_wp2
 first|refine bodyPost_ret (results_none rfl _ _ _) rfl ?_|refine bodyPost_end (results_none rfl _ _ _) rfl ?_
 exact HR.out _ _ rfl
theorem bVo(w0 W:World)(b b5:Nat)(x:aF)(hx:x.f.Behind w0 x.pa x.oa)(hc:x.f.picks.length<=x.pc)(hb:aP W b x.arr 29)(h5:aP W b5 bQy 25):Calls prog 77 #[.pointer (some ⟨b,0,none⟩),.pointer (some ⟨b5,0,none⟩)] W (bRf w0 W b x 11):=by
 have k0:=h5.cell 0;have k1:=h5.cell 1;unfold bQy at k0 k1;have hba:=hb.below (aB W (.cells #[.string ⟨#[]⟩,.string ⟨#[]⟩,.string ⟨#[]⟩,.string ⟨#[49]⟩,.string ⟨#[]⟩,.string ⟨#[]⟩,.string ⟨#[]⟩] 55));have c1:=(hba.cell 19).trans (show x.arr[19]?=some _ from rfl);have f1:=aR hba.2 19;have HR:Hid (∀W',W'=(W.alloc (.cells #[.string ⟨#[]⟩,.string ⟨#[]⟩,.string ⟨#[]⟩,.string ⟨#[49]⟩,.string ⟨#[]⟩,.string ⟨#[]⟩,.string ⟨#[]⟩] 55)).setCell ⟨b,19,none⟩ (.slice (some ⟨W.heap.size,0,none⟩) 1 1)->bRf w0 W b x 11 (.returned (.tuple #[])) W'):=fun W' e=>by
  subst e;have hn:aP ((W.alloc (.cells #[.string ⟨#[]⟩,.string ⟨#[]⟩,.string ⟨#[]⟩,.string ⟨#[49]⟩,.string ⟨#[]⟩,.string ⟨#[]⟩,.string ⟨#[]⟩] 55)).setCell ⟨b,19,none⟩ (.slice (some ⟨W.heap.size,0,none⟩) 1 1)) W.heap.size bVm.cells.toArray 55:=bI4 (aP.new0 _ _ _) (by have:=hb.1;show W.heap.size≠b;omega);exact⟨rfl,({ f:=bF7 x.f 11,pa:=x.pa,pc:=x.pc,oa:=some ⟨W.heap.size,0,none⟩,oc:=1 }:aF),rfl,hc,(show aP _ b (x.arr.setIfInBounds 19 (.slice (some ⟨W.heap.size,0,none⟩) 1 1)) _ from bGb hba),fun B hB=>((aB W _).mono (by have:=hb.1;omega)).setCell hB _,.inl hx.1,.inr ⟨rfl,W.heap.size,rfl,hn⟩⟩
 clear hba;clear hx hc hb h5;go_enter func77,ntmps77;go_wp2
 first|refine bodyPost_ret (results_none rfl _ _ _) rfl ?_|refine bodyPost_end (results_none rfl _ _ _) rfl ?_
 exact HR.out _ rfl
theorem bVp(w0 W:World)(b:Nat)(x:aF)(hx:x.f.Behind w0 x.pa x.oa)(hb:aP W b x.arr 29):Calls prog 78 #[.pointer (some ⟨b,0,none⟩)] W (bRf w0 W b x 10):=by
 have hba:=hb.below (aB W (.cells #[.string ⟨#[97,47,49]⟩,.string ⟨#[49]⟩] 83));have c1:=(hba.cell 18).trans (show x.arr[18]?=some _ from rfl);have f1:=aR hba.2 18;have HR:Hid (∀W',W'=(W.alloc (.cells #[.string ⟨#[97,47,49]⟩,.string ⟨#[49]⟩] 83)).setCell ⟨b,18,none⟩ (.slice (some ⟨W.heap.size,0,none⟩) 1 1)->bRf w0 W b x 10 (.returned (.tuple #[])) W'):=fun W' e=>by
  subst e;have hn:aP ((W.alloc (.cells #[.string ⟨#[97,47,49]⟩,.string ⟨#[49]⟩] 83)).setCell ⟨b,18,none⟩ (.slice (some ⟨W.heap.size,0,none⟩) 1 1)) W.heap.size bU1.cells.toArray 83:=bI4 (aP.new0 _ _ _) (by have:=hb.1;show W.heap.size≠b;omega);exact⟨rfl,({ f:=bF7 x.f 10,pa:=some ⟨W.heap.size,0,none⟩,pc:=1,oa:=x.oa,oc:=x.oc }:aF),rfl,Nl _,(show aP _ b (x.arr.setIfInBounds 18 (.slice (some ⟨W.heap.size,0,none⟩) 1 1)) _ from bGb hba),fun B hB=>((aB W _).mono (by have:=hb.1;omega)).setCell hB _,.inr ⟨rfl,W.heap.size,rfl,hn⟩,.inl hx.2⟩
 clear hba;clear hx hb;go_enter func78,ntmps78;go_wp2
 first|refine bodyPost_ret (results_none rfl _ _ _) rfl ?_|refine bodyPost_end (results_none rfl _ _ _) rfl ?_
 exact HR.out _ rfl
theorem bT8{W w5 w0:World}{base o n m size:Nat}{t e:TypeId}{v v':Value}{xs ys:List Value}{tmp:Obj}(hte:t≠e)(hv:Boxed W o t v)(hrow:W.ownsRow base e size v n xs)(hB:Below base w0 W)(hb:base<=W.heap.size)(ho:base<=o)(hown:w5.ownsRow base e size v' m ys)(hgr:(W.alloc tmp).grownBy w5 v.ownBlock):
  Boxed (w5.setCell ⟨o,0,none⟩ v') o t v'/\(w5.setCell ⟨o,0,none⟩ v').ownsRow base e size v' m ys/\Below base w0 (w5.setCell ⟨o,0,none⟩ v')/\∀b cs T,T≠e->T≠t->aP W b cs T->aP (w5.setCell ⟨o,0,none⟩ v') b cs T:=by
 obtain⟨h1,h2,h3,h4,_⟩:=Dc (P:=fun _=>False) hv hte hrow hb (fun _ h=>h.elim) hown hgr;refine⟨h2,h3,?_,fun b cs T ht1 ht2 hbx=>?_⟩
 ·exact((hB.trans ((aB W tmp).mono hb)).grown hgr (by rw[World.size_alloc];omega) (fun k hk=>(hrow.lt k hk).1)).setCell ho _
 ·have hne:=bC0 hbx ht1 hrow;have hbo:=bJu hbx hv ht2;have hb1:=hbx.below (aB W tmp);exact bI4 ⟨Nat.lt_of_lt_of_le hb1.1 hgr.size,(hgr.block b hb1.1 (fun e=>hne e.symm)).trans hb1.2⟩ hbo
theorem bU5:(prog.info? 29).map (fun i=>(i.zero,i.size,i.bytes))=some (some (.agg (bDh.cellsW bBy bBy)),21,312):=by kernel_rfl
theorem bU2(w:World)(cs:Array Value)(T:TypeId):∀(j:Nat) (u:Value),cs.toList[j]?=some u->(w.alloc (.cells cs T)).cell? ((⟨w.heap.size,0,none⟩:Addr).add j)=some u:=fun j u hj=>by
 have h:=((aP.new0 w cs T).cell j).trans ((Array.getElem?_toList ..).symm.trans hj);unfold Addr.add;split
 ·rename_i e;subst e;exact h
 ·rw[Nat.zero_add];exact h
theorem bUi{w:World}{base n s:Nat}{e:TypeId}{v:Value}{xs:List Value}(h:w.ownsRow base e s v n xs):∃a m c,v=.slice a m c:=by
 rcases h.2 with⟨h,_⟩|⟨g,cap,cur,h,_⟩ <;> exact⟨_,_,_,h⟩
theorem bR3{W W':World}{B:Nat}{t:TypeId}{v:Value}(h:Boxed W B t v)(hb:Below W.heap.size W W'):Boxed W' B t v:=(hb.block B (Ai.1 h).1).trans h
def bU7(w0 W:World)(x y:aF):Prop:=(∃i,bH7 x.f i/\y.f=bF7 x.f i)/\y.f.picks.length<=y.pc/\bTr w0 W y
def bQx(w0 W:World)(bo:Nat)(x:aF)(k:Nat):Prop:=∃(v:Value) (ys:List aF),Boxed W bo 47 v/\W.ownsRow w0.heap.size 29 21 v ys.length (ys.map aF.cells).flatten/\(∀y,y∈ys->bU7 w0 W x y)/\Below w0.heap.size w0 W/\ys.length<=k
theorem bQz(w0 W:World)(b1 bo b5:Nat)(x:aF)(g:Nat)(caps:Array Value)(i:Nat)(z:Bool)(hz:z=true->bH7 x.f i)(h1:aP w0 b1 x.arr 29)(ho:w0.heap.size<=bo)(h5:aP W b5 bQy 25){k:Nat}(hk:k<=100)(hst:bQx w0 W bo x k)
  (hen:∀(args:Array Value) (w:World),(callFunc g args).run prog w=.ok (.enter g args) w)
  (hg:∀W2 b,aP W2 b x.arr 29->aP W2 b5 bQy 25->Calls prog g (#[.pointer (some ⟨b,0,none⟩)]++caps) W2 (bRf w0 W2 b x i)) :
  Calls prog 68 #[.bool z,.func (.func g) #[] caps,.pointer (some ⟨b1,0,none⟩),.pointer (some ⟨bo,0,none⟩)] W fun e w'=>e=.returned (.tuple #[])/\bQx w0 w' bo x (k+1)/\aP w' b5 bQy 25:=by
 cases z with
 |false =>
  clear hg hen;have HS:=Hd hst;have H5:=Hd h5;clear hst h5 hz;go_enter func68,ntmps68;go_wp2
  first|refine bodyPost_ret (results_none rfl _ _ _) rfl ?_|refine bodyPost_end (results_none rfl _ _ _) rfl ?_
  obtain⟨v,ys,q1,q2,q3,q4,q5⟩:=HS.out;exact⟨rfl,⟨v,ys,q1,q2,q3,q4,by omega⟩,H5.out⟩
 |true =>
  obtain⟨v,ys,hv,hrow,hys,hB,hyk⟩:=hst;obtain⟨va,vn,vc,rfl⟩:=bUi hrow;obtain⟨i0,hi,hz0,hz1,hz2⟩:=info_parts bU5;have HINF:=Hd (And.intro hi (And.intro hz0 (And.intro hz1 hz2)));have HCO:=Hd (hz rfl);have HV:=Hd hv;have HROW:=Hd hrow;have HYS:=Hd hys;have HB:=Hd hB;have H5:=Hd h5;have HG:=Hd hg;have H1:=Hd (h1.below hB);have HSX:Hid ((prog.info? 29).map (·.size)=some x.arr.size):=aY x.f x.pa x.oa x.pc x.oc;have HOX:Hid (x.arr.size=21/\x.arr.all (·.oneCell')=true):=⟨rfl,by unfold aF.arr aE.cells;simp[Value.oneCell']⟩
  have KZ:Hid (aP (W.alloc Z13) W.heap.size (bDh.cellsW bBy bBy) 29):=bFz W;have BZ:Hid (Below W.heap.size W (W.alloc Z13)):=aB W Z13;unfold Z13 at KZ BZ;clear hv hrow hys hB h5 hg h1 hz hi hz0 hz1 hz2;generalize hxa:x.arr=xc at *;clear hxa;go_enter func68,ntmps68;go_wp2_with (first
   |(refine wpList_load_row rfl 29 _ rfl b1 rfl 29 xc (0,0) _ H1.out.2 underlying29 rfl HSX.out ?_)
   |(refine bC5 rfl 29 _ _ rfl W.heap.size xc rfl rfl KZ.out HSX.out (by show _=_;rw[HOX.out.1];rfl) HOX.out.2 ?_;intro w2 kx bx gr;have K2:=Hd kx;have B2:=Hd (BZ.out.trans (bx _ (Nl _)));clear kx bx gr))
  refine(HG.out w2 W.heap.size K2.out (H5.out.below B2.out)).mono ?_;rintro e w3 ⟨rfl,y,hy,hyc,hyb,hB3,hbk⟩;have b3:=B2.out.trans (hB3 W.heap.size (Nl _));have hv3:=bR3 HV.out b3;have cbo:w3.cell? ⟨bo,0,none⟩=some (.slice va vn vc):=by simp[World.cell?,show w3.heap[bo]?=_ from hv3]
  have HV3:=Hd hv3;have HROW3:=Hd (aD9 HROW.out b3);have HKY:=Hd hyb;have HBE3:=Hd (HB.out.trans (b3.mono HB.out.size));have H53:=Hd (H5.out.below b3);have HY3:Hid (∀z,z∈ys ++ [y]->bU7 w0 w3 x z):=fun z hz=>by
   rcases List.mem_append.1 hz with hz|hz
   ·obtain⟨h1,h2,h3⟩:=HYS.out z hz;exact⟨h1,h2,h3.keep (bUc.of_below b3)⟩
   ·obtain rfl:=List.mem_singleton.1 hz;exact⟨⟨i,HCO.out,hy⟩,hyc,hbk⟩
  have HFL:Hid (((ys ++ [y]).map aF.cells).flatten=(ys.map aF.cells).flatten++y.arr.toList):=by show _=_;simp[aF.cells]
  have HRUN:=Hd (bTt y w3);have HSY:Hid ((prog.info? 29).map (·.size)=some y.arr.size):=aY y.f y.pa y.oa y.pc y.oc;have HOY:Hid (y.arr.toList.length=1*21/\∀u,u∈y.arr.toList->u.oneCell'=true):=⟨rfl,fun u hu=>by
   have h:y.arr.all (·.oneCell')=true:=by unfold aF.arr aE.cells;simp[Value.oneCell']
   rw[Array.all_eq_true_iff_forall_mem] at h;exact h u (by simpa using hu)⟩
  have HLEN:Hid ((ys ++ [y]).length=ys.length+1/\ys.length<=k):=⟨by simp,hyk⟩
  clear hv3 b3 hy hyc hyb hB3 hbk HYS HG HROW HV H5 K2 B2 HB KZ BZ HOX HSX H1 hyk HCO;generalize y.arr=yc at *;generalize hfl:(ys.map aF.cells).flatten=fl at *;clear hfl;go_wp2_with (first
   |(refine wpList_load_row rfl 29 _ rfl W.heap.size rfl 29 yc (0,0) _ HKY.out.2 underlying29 rfl HSY.out ?_)
   |(refine bN8 rfl 47 1 _ rfl #[(0,.agg yc)] _ (by first|rfl|kernel_rfl) HRUN.out ?_)
   |(at_builtin;refine wpList_append_own_at _ rfl _ _ 47 rfl w0.heap.size 29 i0 (.agg (bDh.cellsW bBy bBy)) 21 312 underlying47 HINF.out.1 HINF.out.2.1 HINF.out.2.2.1 HINF.out.2.2.2 rfl (by decide) _ _ _ rfl (HROW3.out.alloc _) ⟨w3.heap.size,0,none⟩ 1 1 yc.toList rfl HOY.out.1 (bU2 w3 yc 29) HOY.out.2 (by have:=HLEN.out.2;unfold maxLen;omega) (by have:=HLEN.out.2;omega) (by rw[World.size_alloc];exact Nat.le_succ_of_le HBE3.out.size) ?_;intro v' w5 hown' hgrow hx1 hx2;obtain⟨va',vn',vc',rfl⟩:=bUi hown';obtain⟨q1,_⟩:=Dc (P:=fun _=>False) HV3.out (by decide) HROW3.out HBE3.out.size (fun _ h=>h.elim) hown' hgrow;have c5:w5.cell? ⟨bo,0,none⟩=some (.slice va vn vc):=(by simp[World.cell?,show w5.heap[bo]?=_ from q1]);have f5:=aR q1 0;have HAS:=Hd (bT8 (by decide) HV3.out HROW3.out HBE3.out HBE3.out.size ho hown' hgrow);clear hown' hgrow hx1 hx2 q1))
  refine bodyPost_end (results_none rfl _ _ _) rfl ?_;obtain⟨r1,r2,r3,r4⟩:=HAS.out;refine⟨rfl,⟨_,ys ++ [y],r1,?_,fun z hz=>?_,r3,?_⟩,r4 _ _ _ (by decide) (by decide) H53.out⟩
  ·rw[HFL.out,HLEN.out.1];exact r2
  ·obtain⟨h1,h2,h3⟩:=HY3.out z hz;exact⟨h1,h2,h3.keep r4⟩
  ·have:=HLEN.out;omega
end
section
open Go Go.RowKit Num
theorem bVl(w0:World)(b1 bo b5:Nat)(x:aF)(hx:x.f.Behind w0 x.pa x.oa)(hc:x.f.picks.length<=x.pc)(h1:aP w0 b1 x.arr 29)(ho:w0.heap.size<=bo)(z:Bool)(hz:z=true->bH7 x.f 0)(k:Nat)(hk:k<=100)(W:World)(hst:bQx w0 W bo x k)(h5:aP W b5 bQy 25):
  Calls prog 68 #[.bool z,.func (.func 69) #[] #[],.pointer (some ⟨b1,0,none⟩),.pointer (some ⟨bo,0,none⟩)] W fun e w'=>e=.returned (.tuple #[])/\bQx w0 w' bo x (k+1)/\aP w' b5 bQy 25 :=
 bQz w0 W b1 bo b5 x 69 #[] 0 z hz h1 ho h5 hk hst (aXb func69) (fun W2 b hb _h5=>bVy w0 W2 b x hx hc hb)
theorem bVk(w0:World)(b1 bo b5:Nat)(x:aF)(hx:x.f.Behind w0 x.pa x.oa)(hc:x.f.picks.length<=x.pc)(h1:aP w0 b1 x.arr 29)(ho:w0.heap.size<=bo)(z:Bool)(hz:z=true->bH7 x.f 1)(k:Nat)(hk:k<=100)(W:World)(hst:bQx w0 W bo x k)(h5:aP W b5 bQy 25):
  Calls prog 68 #[.bool z,.func (.func 70) #[] #[],.pointer (some ⟨b1,0,none⟩),.pointer (some ⟨bo,0,none⟩)] W fun e w'=>e=.returned (.tuple #[])/\bQx w0 w' bo x (k+1)/\aP w' b5 bQy 25 :=
 bQz w0 W b1 bo b5 x 70 #[] 1 z hz h1 ho h5 hk hst (aXb func70) (fun W2 b hb _h5=>bVx w0 W2 b x hx hc hb)
theorem bVj(w0:World)(b1 bo b5:Nat)(x:aF)(hx:x.f.Behind w0 x.pa x.oa)(hc:x.f.picks.length<=x.pc)(h1:aP w0 b1 x.arr 29)(ho:w0.heap.size<=bo)(z:Bool)(hz:z=true->bH7 x.f 2)(k:Nat)(hk:k<=100)(W:World)(hst:bQx w0 W bo x k)(h5:aP W b5 bQy 25):
  Calls prog 68 #[.bool z,.func (.func 71) #[] #[],.pointer (some ⟨b1,0,none⟩),.pointer (some ⟨bo,0,none⟩)] W fun e w'=>e=.returned (.tuple #[])/\bQx w0 w' bo x (k+1)/\aP w' b5 bQy 25 :=
 bQz w0 W b1 bo b5 x 71 #[] 2 z hz h1 ho h5 hk hst (aXb func71) (fun W2 b hb _h5=>bVw w0 W2 b x hx hc hb)
theorem bVi(w0:World)(b1 bo b5:Nat)(x:aF)(hx:x.f.Behind w0 x.pa x.oa)(hc:x.f.picks.length<=x.pc)(h1:aP w0 b1 x.arr 29)(ho:w0.heap.size<=bo)(z:Bool)(hz:z=true->bH7 x.f 3)(k:Nat)(hk:k<=100)(W:World)(hst:bQx w0 W bo x k)(h5:aP W b5 bQy 25):
  Calls prog 68 #[.bool z,.func (.func 72) #[] #[],.pointer (some ⟨b1,0,none⟩),.pointer (some ⟨bo,0,none⟩)] W fun e w'=>e=.returned (.tuple #[])/\bQx w0 w' bo x (k+1)/\aP w' b5 bQy 25 :=
 bQz w0 W b1 bo b5 x 72 #[] 3 z hz h1 ho h5 hk hst (aXb func72) (fun W2 b hb _h5=>bVv w0 W2 b x hx hc hb)
theorem bVh(w0:World)(b1 bo b5:Nat)(x:aF)(hx:x.f.Behind w0 x.pa x.oa)(hc:x.f.picks.length<=x.pc)(h1:aP w0 b1 x.arr 29)(ho:w0.heap.size<=bo)(z:Bool)(hz:z=true->bH7 x.f 4)(k:Nat)(hk:k<=100)(W:World)(hst:bQx w0 W bo x k)(h5:aP W b5 bQy 25):
  Calls prog 68 #[.bool z,.func (.func 73) #[] #[],.pointer (some ⟨b1,0,none⟩),.pointer (some ⟨bo,0,none⟩)] W fun e w'=>e=.returned (.tuple #[])/\bQx w0 w' bo x (k+1)/\aP w' b5 bQy 25 :=
 bQz w0 W b1 bo b5 x 73 #[] 4 z hz h1 ho h5 hk hst (aXb func73) (fun W2 b hb _h5=>bVu w0 W2 b x hx hc hb)
theorem bVg(w0:World)(b1 bo b5:Nat)(x:aF)(hx:x.f.Behind w0 x.pa x.oa)(hc:x.f.picks.length<=x.pc)(h1:aP w0 b1 x.arr 29)(ho:w0.heap.size<=bo)(z:Bool)(hz:z=true->bH7 x.f 5)(k:Nat)(hk:k<=100)(W:World)(hst:bQx w0 W bo x k)(h5:aP W b5 bQy 25):
  Calls prog 68 #[.bool z,.func (.func 74) #[] #[],.pointer (some ⟨b1,0,none⟩),.pointer (some ⟨bo,0,none⟩)] W fun e w'=>e=.returned (.tuple #[])/\bQx w0 w' bo x (k+1)/\aP w' b5 bQy 25 :=
 bQz w0 W b1 bo b5 x 74 #[] 5 z hz h1 ho h5 hk hst (aXb func74) (fun W2 b hb _h5=>bVt w0 W2 b x hx hc hb)
theorem bVf(w0:World)(b1 bo b5:Nat)(x:aF)(hx:x.f.Behind w0 x.pa x.oa)(hc:x.f.picks.length<=x.pc)(h1:aP w0 b1 x.arr 29)(ho:w0.heap.size<=bo)(z:Bool)(hz:z=true->bH7 x.f 6)(k:Nat)(hk:k<=100)(W:World)(hst:bQx w0 W bo x k)(h5:aP W b5 bQy 25):
  Calls prog 68 #[.bool z,.func (.func 75) #[] #[],.pointer (some ⟨b1,0,none⟩),.pointer (some ⟨bo,0,none⟩)] W fun e w'=>e=.returned (.tuple #[])/\bQx w0 w' bo x (k+1)/\aP w' b5 bQy 25 :=
 bQz w0 W b1 bo b5 x 75 #[] 6 z hz h1 ho h5 hk hst (aXb func75) (fun W2 b hb _h5=>bVs w0 W2 b x hx hc hb)
theorem bVe(w0:World)(b1 bo b5:Nat)(x:aF)(hx:x.f.Behind w0 x.pa x.oa)(hc:x.f.picks.length<=x.pc)(h1:aP w0 b1 x.arr 29)(ho:w0.heap.size<=bo)(z:Bool)(hz:z=true->bH7 x.f 8)(k:Nat)(hk:k<=100)(W:World)(hst:bQx w0 W bo x k)(h5:aP W b5 bQy 25):
  Calls prog 68 #[.bool z,.func (.func 76) #[] #[.pointer (some ⟨b5,0,none⟩)],.pointer (some ⟨b1,0,none⟩),.pointer (some ⟨bo,0,none⟩)] W fun e w'=>e=.returned (.tuple #[])/\bQx w0 w' bo x (k+1)/\aP w' b5 bQy 25 :=
 bQz w0 W b1 bo b5 x 76 #[.pointer (some ⟨b5,0,none⟩)] 8 z hz h1 ho h5 hk hst (aXb func76) (fun W2 b hb h5=>bVr w0 W2 b b5 x hx hc hb h5)
theorem bVc(w0:World)(b1 bo b5:Nat)(x:aF)(hx:x.f.Behind w0 x.pa x.oa)(hc:x.f.picks.length<=x.pc)(h1:aP w0 b1 x.arr 29)(ho:w0.heap.size<=bo)(z:Bool)(hz:z=true->bH7 x.f 11)(k:Nat)(hk:k<=100)(W:World)(hst:bQx w0 W bo x k)(h5:aP W b5 bQy 25):
  Calls prog 68 #[.bool z,.func (.func 77) #[] #[.pointer (some ⟨b5,0,none⟩)],.pointer (some ⟨b1,0,none⟩),.pointer (some ⟨bo,0,none⟩)] W fun e w'=>e=.returned (.tuple #[])/\bQx w0 w' bo x (k+1)/\aP w' b5 bQy 25 :=
 bQz w0 W b1 bo b5 x 77 #[.pointer (some ⟨b5,0,none⟩)] 11 z hz h1 ho h5 hk hst (aXb func77) (fun W2 b hb h5=>bVo w0 W2 b b5 x hx hc hb h5)
theorem bVd(w0:World)(b1 bo b5:Nat)(x:aF)(hx:x.f.Behind w0 x.pa x.oa)(_hc:x.f.picks.length<=x.pc)(h1:aP w0 b1 x.arr 29)(ho:w0.heap.size<=bo)(z:Bool)(hz:z=true->bH7 x.f 10)(k:Nat)(hk:k<=100)(W:World)(hst:bQx w0 W bo x k)(h5:aP W b5 bQy 25):
  Calls prog 68 #[.bool z,.func (.func 78) #[] #[],.pointer (some ⟨b1,0,none⟩),.pointer (some ⟨bo,0,none⟩)] W fun e w'=>e=.returned (.tuple #[])/\bQx w0 w' bo x (k+1)/\aP w' b5 bQy 25 :=
 bQz w0 W b1 bo b5 x 78 #[] 10 z hz h1 ho h5 hk hst (aXb func78) (fun W2 b hb _h5=>bVp w0 W2 b x hx hb)
theorem bU8(w0:World)(b1 bo b5:Nat)(x:aF)(hx:x.f.Behind w0 x.pa x.oa)(hc:x.f.picks.length<=x.pc)(h1:aP w0 b1 x.arr 29)(ho:w0.heap.size<=bo)(z:Bool)(hz:z=true->bH7 x.f 12)(k:Nat)(hk:k<=100)(W:World)(hst:bQx w0 W bo x k)(h5:aP W b5 bQy 25):
  Calls prog 68 #[.bool z,.func (.func 79) #[] #[],.pointer (some ⟨b1,0,none⟩),.pointer (some ⟨bo,0,none⟩)] W fun e w'=>e=.returned (.tuple #[])/\bQx w0 w' bo x (k+1)/\aP w' b5 bQy 25 :=
 bQz w0 W b1 bo b5 x 79 #[] 12 z hz h1 ho h5 hk hst (aXb func79) (fun W2 b hb _h5=>bVn w0 W2 b x hx hc hb)
theorem bWa{f:aE}(h:f.ins=[]):bH7 f 0:=by unfold bH7;rw[if_pos rfl];exact h
theorem bV9{f:aE}(h:f.other=[]):bH7 f 1:=by unfold bH7;rw[if_neg (by decide),if_pos rfl];exact h
theorem bV8{f:aE}(h:f.cur=[]):bH7 f 2:=by unfold bH7;simp;exact h
theorem bV7{f:aE}(h:f.target=[]):bH7 f 3:=by unfold bH7;simp;exact h
theorem bV6{f:aE}(h:f.q=[]):bH7 f 4:=by unfold bH7;simp;exact h
theorem bV5{f:aE}(h:f.amt=[])(h3:f.kind≠3)(h4:f.kind≠4):bH7 f 5:=by unfold bH7;simp;exact⟨h,h3,h4⟩
theorem bV4{f:aE}(h:f.fee=[])(h3:f.kind≠3)(h4:f.kind≠4):bH7 f 6:=by unfold bH7;simp;exact⟨h,h3,h4⟩
theorem bV3{f:aE}(h:f.ratio.n=[]/\f.ratio.d=[]):bH7 f 8:=by unfold bH7;simp;exact h
theorem bV2{f:aE}(h:f.picks=[])(h4:f.kind≠4):bH7 f 10:=by unfold bH7;simp;exact⟨h,h4⟩
theorem bV1{f:aE}(h:f.options=[]):bH7 f 11:=by unfold bH7;simp;exact h
theorem bV0{f:aE}(h:f.choice=0)(h4:f.kind≠11):bH7 f 12:=by unfold bH7;simp;exact⟨h,h4⟩
def bU6(x:aF)(w w':World)(e:Ending):Prop:=∃(a:Option Addr) (c:Nat) (ys:List aF),e=.returned (.slice a ys.length c)/\fS w' a ys/\(∀y,y∈ys->(∃i,bH7 x.f i/\y.f=bF7 x.f i)/\y.f.picks.length<=y.pc)/\ys.length<=11/\Below w.heap.size w w'
theorem bU3{w0 W:World}{bo:Nat}{x:aF}{k:Nat}{v:Value}(h:bQx w0 W bo x k)(hv:W.cell? ⟨bo,0,none⟩=some v):∃(a:Option Addr) (c:Nat) (ys:List aF),v=.slice a ys.length c/\fS W a ys/\(∀y,y∈ys->(∃i,bH7 x.f i/\y.f=bF7 x.f i)/\y.f.picks.length<=y.pc)/\ys.length<=k/\Below w0.heap.size w0 W:=by
 obtain⟨v',ys,q1,q2,q3,q4,q5⟩:=h;have e:v'=v:=by
  have h1:W.cell? ⟨bo,0,none⟩=some v':=by simp[World.cell?,show W.heap[bo]?=_ from q1]
  rw[h1] at hv;exact Option.some.inj hv
 subst e;have hl:(ys.map aF.cells).length=ys.length:=List.length_map ..;rw[<-hl] at q2;obtain⟨a,c,rfl,_,hr⟩:=bJ3 (N:=21) (css:=ys.map aF.cells) (by decide) (fun cs h=>by obtain⟨y,_,rfl⟩:=List.mem_map.1 h;rfl) q2;rw[hl];exact⟨a,c,ys,rfl,⟨hr,fun y hy=>(q3 y hy).2.2.behind q4⟩,fun y hy=>⟨(q3 y hy).1,(q3 y hy).2.1⟩,q5,q4⟩
theorem bUz{w0 W:World}{bo:Nat}{x:aF}{k:Nat}(h:bQx w0 W bo x k):∃a n c,W.cell? ⟨bo,0,none⟩=some (.slice a n c):=by
 obtain⟨v',ys,q1,q2,_⟩:=h;obtain⟨a,n,c,rfl⟩:=bUi q2;exact⟨a,n,c,by simp[World.cell?,show W.heap[bo]?=_ from q1]⟩
theorem bU4(x:aF)(w:World)(hx:x.f.Behind w x.pa x.oa)(hc:x.f.picks.length<=x.pc):Calls prog 27 #[.agg x.arr] w fun e w'=>bU6 x w w' e:=by
 obtain⟨w0,hw0⟩:∃w0,w0=w.alloc (.cells x.arr 29):=⟨_,rfl⟩
 obtain⟨wA,hwA⟩:∃wA,wA=w0.alloc (.cells #[.slice none 0 0] 47):=⟨_,rfl⟩
 have s0:w0.heap.size=w.heap.size+1:=by rw[hw0,World.size_alloc]
 have sA:wA.heap.size=w.heap.size+1+1:=by rw[hwA,World.size_alloc,s0]
 have b0:Below w.heap.size w w0:=by rw[hw0];exact aB _ _
 have bA:Below w0.heap.size w0 wA:=by rw[hwA];exact aB _ _
 have k1:aP w0 w.heap.size x.arr 29:=by rw[hw0];exact aP.new0 _ _ _
 have hbo:Boxed wA (w.heap.size+1) 47 (.slice none 0 0):=by
  have h:=(aP.new0 w0 #[.slice none 0 0] 47).2;rw[s0,<-hwA] at h;exact h
 have HB0:=Hd b0;have K1:=Hd k1;have HS0:=Hd (bVl w0 w.heap.size (w.heap.size+1) (w.heap.size+1+1) x (hx.below b0) hc k1 (by omega));have HS1:=Hd (bVk w0 w.heap.size (w.heap.size+1) (w.heap.size+1+1) x (hx.below b0) hc k1 (by omega));have HS2:=Hd (bVj w0 w.heap.size (w.heap.size+1) (w.heap.size+1+1) x (hx.below b0) hc k1 (by omega));have HS3:=Hd (bVi w0 w.heap.size (w.heap.size+1) (w.heap.size+1+1) x (hx.below b0) hc k1 (by omega));have HS4:=Hd (bVh w0 w.heap.size (w.heap.size+1) (w.heap.size+1+1) x (hx.below b0) hc k1 (by omega));have HS5:=Hd (bVg w0 w.heap.size (w.heap.size+1) (w.heap.size+1+1) x (hx.below b0) hc k1 (by omega));have HS6:=Hd (bVf w0 w.heap.size (w.heap.size+1) (w.heap.size+1+1) x (hx.below b0) hc k1 (by omega));have HS8:=Hd (bVe w0 w.heap.size (w.heap.size+1) (w.heap.size+1+1) x (hx.below b0) hc k1 (by omega));have HS11:=Hd (bVc w0 w.heap.size (w.heap.size+1) (w.heap.size+1+1) x (hx.below b0) hc k1 (by omega));have HS10:=Hd (bVd w0 w.heap.size (w.heap.size+1) (w.heap.size+1+1) x (hx.below b0) hc k1 (by omega));have HS12:=Hd (bU8 w0 w.heap.size (w.heap.size+1) (w.heap.size+1+1) x (hx.below b0) hc k1 (by omega));have HST0:Hid (∀W,Below wA.heap.size wA W->bQx w0 W (w.heap.size+1) x 0):=fun W hW=>⟨.slice none 0 0,[],bR3 hbo hW,⟨rfl,.inl ⟨rfl,rfl⟩⟩,fun y hy=>(by cases hy),bA.trans (hW.mono bA.size),Nl _⟩
 have kz:=aP.new0 wA #[.string ⟨#[]⟩,.string ⟨#[]⟩] 25;have BZ:=Hd (aB wA (.cells #[.string ⟨#[]⟩,.string ⟨#[]⟩] 25));rw[sA] at kz;have KZ:=Hd kz;have SA:=Hd sA;have HO13:Hid (bQy.all (·.oneCell')=true):=by show _=_;simp[bQy,Value.oneCell']
 have HSF:Hid ((prog.info? 25).map (·.size)=some bQy.size):=by show _=_;kernel_rfl
 have HK:Hid (∀W k,bQx w0 W (w.heap.size+1) x k->aP W w.heap.size x.arr 29):=fun W k h=>by
  obtain⟨_,_,_,_,_,q4,_⟩:=h;exact k1.below q4
 have HSX:Hid ((prog.info? 29).map (·.size)=some x.arr.size):=aY x.f x.pa x.oa x.pc x.oc;have HX:Hid (x.arr[4]?=some (.int .i64 x.f.kind)/\x.arr[5]?=some (.string ⟨x.f.ins.toArray⟩)/\x.arr[6]?=some (.string ⟨x.f.other.toArray⟩)/\x.arr[7]?=some (.string ⟨x.f.cur.toArray⟩)/\x.arr[8]?=some (.string ⟨x.f.target.toArray⟩)/\x.arr[9]?=some (.string ⟨x.f.q.toArray⟩)/\x.arr[10]?=some (.string ⟨x.f.amt.toArray⟩)/\x.arr[11]?=some (.string ⟨x.f.fee.toArray⟩)/\x.arr[14]?=some (.string ⟨x.f.ratio.n.toArray⟩)/\x.arr[15]?=some (.string ⟨x.f.ratio.d.toArray⟩)/\x.arr[19]?=some (.slice x.oa x.f.options.length x.oc)/\x.arr[18]?=some (.slice x.pa x.f.picks.length x.pc)/\x.arr[20]?=some (.int .i64 x.f.choice)):=⟨rfl,rfl,rfl,rfl,rfl,rfl,rfl,rfl,rfl,rfl,rfl,rfl,rfl⟩
 clear hx hc b0 bA k1 hbo s0 sA kz;obtain⟨xc,hxc⟩:∃c,c=x.arr:=⟨_,rfl⟩
 rw[<-hxc] at HX HSX HK K1 ⊢;have A0:Hid (w.alloc (.cells xc 29)=w0):=by show _=_;rw[hw0,hxc]
 have A1:Hid (w0.alloc (.cells #[.slice none 0 0] 47)=wA):=hwA.symm;clear hw0 hwA hxc;go_enter func27,ntmps27;go_upto_region 4 with(first
  |(rw[A0.out,A1.out];refine bC5 rfl 25 _ _ rfl (w.heap.size+1+1) bQy rfl rfl KZ.out HSF.out rfl HO13.out ?_;intro wB kx bx gr;have F0:=Hd kx;have ST0:=Hd (HST0.out wB (BZ.out.trans (bx wA.heap.size (by rw[SA.out];exact Nl _))));clear kx bx gr))
 clear A0 A1 HST0 KZ BZ SA HSF;have c0:=((HK.out _ _ ST0.out).cell 5).trans HX.out.2.1;go_wp2_with fail;refine(HS0.out _ (fun h=>bWa (by simpa using h)) 0 (by omega) _ ST0.out F0.out).mono ?_;rintro e x1 ⟨rfl,st,h5⟩;have ST1:=Hd st;have F1:=Hd h5;clear st h5 c0 ST0 F0 HS0;have c1:=((HK.out _ _ ST1.out).cell 6).trans HX.out.2.2.1;go_wp2_with fail;refine(HS1.out _ (fun h=>bV9 (by simpa using h)) 1 (by omega) _ ST1.out F1.out).mono ?_;rintro e x2 ⟨rfl,st,h5⟩;have ST2:=Hd st;have F2:=Hd h5;clear st h5 c1 ST1 F1 HS1;have c2:=((HK.out _ _ ST2.out).cell 7).trans HX.out.2.2.2.1;go_wp2_with fail;refine(HS2.out _ (fun h=>bV8 (by simpa using h)) 2 (by omega) _ ST2.out F2.out).mono ?_;rintro e x3 ⟨rfl,st,h5⟩;have ST3:=Hd st;have F3:=Hd h5;clear st h5 c2 ST2 F2 HS2;have c3:=((HK.out _ _ ST3.out).cell 8).trans HX.out.2.2.2.2.1;go_wp2_with fail;refine(HS3.out _ (fun h=>bV7 (by simpa using h)) 3 (by omega) _ ST3.out F3.out).mono ?_;rintro e x4 ⟨rfl,st,h5⟩;have ST4:=Hd st;have F4:=Hd h5;clear st h5 c3 ST3 F3 HS3;have c4:=((HK.out _ _ ST4.out).cell 9).trans HX.out.2.2.2.2.2.1;go_wp2_with fail;refine(HS4.out _ (fun h=>bV6 (by simpa using h)) 4 (by omega) _ ST4.out F4.out).mono ?_;rintro e x5 ⟨rfl,st,h5⟩;have ST5:=Hd st;have F5:=Hd h5;clear st h5 c4 ST4 F4 HS4;go_upto_region 9 with fail
 go_cut [] from 6 (fun wx=>bQx w0 wx (w.heap.size+1) x 6/\aP wx (w.heap.size+1+1) bQy 25)
 case first =>
  have ca:=((HK.out _ _ ST5.out).cell 10).trans HX.out.2.2.2.2.2.2.1;have cb:=((HK.out _ _ ST5.out).cell 4).trans HX.out.1
  by_cases ha:x.f.amt=[]
  ·have ha1:(x.f.amt == [])=true:=by rw[ha];rfl
   by_cases h3:x.f.kind=3
   ·have h31:(x.f.kind==3)=true:=by rw[h3];rfl
    go_wp2_with fail;refine(HS5.out false (fun h=>by cases h) 5 (by omega) _ ST5.out F5.out).mono ?_;rintro e y ⟨rfl,st,h5⟩
    (try go_wp2_with fail)
    go_meet
    case rel=>exact⟨st,h5⟩
   ·have h31:(x.f.kind==3)=false:=by simpa using h3
    by_cases h4:x.f.kind=4
    ·have h41:(x.f.kind==4)=true:=by rw[h4];rfl
     go_wp2_with fail;refine(HS5.out false (fun h=>by cases h) 5 (by omega) _ ST5.out F5.out).mono ?_;rintro e y ⟨rfl,st,h5⟩
     (try go_wp2_with fail)
     go_meet
     case rel=>exact⟨st,h5⟩
    ·have h41:(x.f.kind==4)=false:=by simpa using h4
     go_wp2_with fail;refine(HS5.out _ (fun _=>bV5 ha h3 h4) 5 (by omega) _ ST5.out F5.out).mono ?_;rintro e y ⟨rfl,st,h5⟩
     (try go_wp2_with fail)
     go_meet
     case rel=>exact⟨st,h5⟩
  ·have ha1:(x.f.amt == [])=false:=by
    cases e:x.f.amt == [] with
    |false=>rfl
    |true=>exact absurd (eq_of_beq e) ha
   go_wp2_with fail;refine(HS5.out false (fun h=>by cases h) 5 (by omega) _ ST5.out F5.out).mono ?_;rintro e y ⟨rfl,st,h5⟩
   (try go_wp2_with fail)
   go_meet
   case rel=>exact⟨st,h5⟩
 case rest =>
 obtain⟨st,h5⟩:=hcut;have ST6:=Hd st;have F6:=Hd h5;clear st h5 ST5 F5 HS5;go_upto_region 10 with fail
 go_cut [] from 6 (fun wx=>bQx w0 wx (w.heap.size+1) x 7/\aP wx (w.heap.size+1+1) bQy 25)
 case first =>
  have ca:=((HK.out _ _ ST6.out).cell 11).trans HX.out.2.2.2.2.2.2.2.1;have cb:=((HK.out _ _ ST6.out).cell 4).trans HX.out.1
  by_cases ha:x.f.fee=[]
  ·have ha1:(x.f.fee == [])=true:=by rw[ha];rfl
   by_cases h3:x.f.kind=3
   ·have h31:(x.f.kind==3)=true:=by rw[h3];rfl
    go_wp2_with fail;refine(HS6.out false (fun h=>by cases h) 6 (by omega) _ ST6.out F6.out).mono ?_;rintro e y ⟨rfl,st,h5⟩
    (try go_wp2_with fail)
    go_meet
    case rel=>exact⟨st,h5⟩
   ·have h31:(x.f.kind==3)=false:=by simpa using h3
    by_cases h4:x.f.kind=4
    ·have h41:(x.f.kind==4)=true:=by rw[h4];rfl
     go_wp2_with fail;refine(HS6.out false (fun h=>by cases h) 6 (by omega) _ ST6.out F6.out).mono ?_;rintro e y ⟨rfl,st,h5⟩
     (try go_wp2_with fail)
     go_meet
     case rel=>exact⟨st,h5⟩
    ·have h41:(x.f.kind==4)=false:=by simpa using h4
     go_wp2_with fail;refine(HS6.out _ (fun _=>bV4 ha h3 h4) 6 (by omega) _ ST6.out F6.out).mono ?_;rintro e y ⟨rfl,st,h5⟩
     (try go_wp2_with fail)
     go_meet
     case rel=>exact⟨st,h5⟩
  ·have ha1:(x.f.fee == [])=false:=by
    cases e:x.f.fee == [] with
    |false=>rfl
    |true=>exact absurd (eq_of_beq e) ha
   go_wp2_with fail;refine(HS6.out false (fun h=>by cases h) 6 (by omega) _ ST6.out F6.out).mono ?_;rintro e y ⟨rfl,st,h5⟩
   (try go_wp2_with fail)
   go_meet
   case rel=>exact⟨st,h5⟩
 case rest =>
 obtain⟨st,h5⟩:=hcut;have ST7:=Hd st;have F7:=Hd h5;clear st h5 ST6 F6 HS6;go_upto_region 11 with fail
 go_cut [] from 6 (fun wx=>bQx w0 wx (w.heap.size+1) x 8/\aP wx (w.heap.size+1+1) bQy 25)
 case first =>
  have ca:=((HK.out _ _ ST7.out).cell 14).trans HX.out.2.2.2.2.2.2.2.2.1;have cb:=((HK.out _ _ ST7.out).cell 15).trans HX.out.2.2.2.2.2.2.2.2.2.1
  by_cases ha:x.f.ratio.n=[]
  ·by_cases hb:x.f.ratio.d=[]
   ·have HAB:=Hd (And.intro ha hb);rw[ha] at ca;rw[hb] at cb;clear ha hb;go_wp2_with fail;refine(HS8.out _ (fun _=>bV3 HAB.out) 7 (by omega) _ ST7.out F7.out).mono ?_;rintro e y ⟨rfl,st,h5⟩
    (try go_wp2_with fail)
    go_meet
    case rel=>exact⟨st,h5⟩
   ·have hb1:(x.f.ratio.d == [])=false:=by
     cases e:x.f.ratio.d == [] with
     |false=>rfl
     |true=>exact absurd (eq_of_beq e) hb
    rw[ha] at ca;go_wp2_with fail;refine(HS8.out false (fun h=>by cases h) 7 (by omega) _ ST7.out F7.out).mono ?_;rintro e y ⟨rfl,st,h5⟩
    (try go_wp2_with fail)
    go_meet
    case rel=>exact⟨st,h5⟩
  ·have ha1:(x.f.ratio.n == [])=false:=by
    cases e:x.f.ratio.n == [] with
    |false=>rfl
    |true=>exact absurd (eq_of_beq e) ha
   go_wp2_with fail;refine(HS8.out false (fun h=>by cases h) 7 (by omega) _ ST7.out F7.out).mono ?_;rintro e y ⟨rfl,st,h5⟩
   (try go_wp2_with fail)
   go_meet
   case rel=>exact⟨st,h5⟩
 case rest =>
 obtain⟨st,h5⟩:=hcut;have ST8:=Hd st;have F8:=Hd h5;clear st h5 ST7 F7 HS8;have c12:=((HK.out _ _ ST8.out).cell 19).trans HX.out.2.2.2.2.2.2.2.2.2.2.1;go_wp2_with fail;refine(HS11.out _ (fun h=>bV1 (by simpa using h)) 8 (by omega) _ ST8.out F8.out).mono ?_;rintro e x9 ⟨rfl,st,h5⟩;have ST9:=Hd st;have F9:=Hd h5;clear st h5 c12 ST8 F8 HS11;go_upto_region 13 with fail
 go_cut [] from 6 (fun wx=>bQx w0 wx (w.heap.size+1) x 10/\aP wx (w.heap.size+1+1) bQy 25)
 case first =>
  have ca:=((HK.out _ _ ST9.out).cell 18).trans HX.out.2.2.2.2.2.2.2.2.2.2.2.1;have cb:=((HK.out _ _ ST9.out).cell 4).trans HX.out.1
  by_cases ha:x.f.picks=[]
  ·have ha1:x.f.picks.length=0:=by rw[ha];rfl
   rw[ha1] at ca
   by_cases h4:x.f.kind=4
   ·have h41:(x.f.kind==4)=true:=by rw[h4];rfl
    go_wp2_with fail;refine(HS10.out false (fun h=>by cases h) 9 (by omega) _ ST9.out F9.out).mono ?_;rintro e y ⟨rfl,st,h5⟩
    (try go_wp2_with fail)
    go_meet
    case rel=>exact⟨st,h5⟩
   ·have h41:(x.f.kind==4)=false:=by simpa using h4
    go_wp2_with fail;refine(HS10.out _ (fun _=>bV2 ha h4) 9 (by omega) _ ST9.out F9.out).mono ?_;rintro e y ⟨rfl,st,h5⟩
    (try go_wp2_with fail)
    go_meet
    case rel=>exact⟨st,h5⟩
  ·have ha1:((x.f.picks.length:Int)==0)=false:=by simpa using ha
   have ha2:(x.f.picks.length==0)=false:=by simpa using ha
   go_wp2_with fail;refine(HS10.out false (fun h=>by cases h) 9 (by omega) _ ST9.out F9.out).mono ?_;rintro e y ⟨rfl,st,h5⟩
   (try go_wp2_with fail)
   go_meet
   case rel=>exact⟨st,h5⟩
 case rest =>
 obtain⟨st,h5⟩:=hcut;have ST10:=Hd st;have F10:=Hd h5;clear st h5 ST9 F9 HS10;go_upto_region 14 with fail
 go_cut [] from 6 (fun wx=>bQx w0 wx (w.heap.size+1) x 11/\aP wx (w.heap.size+1+1) bQy 25)
 case first =>
  have ca:=((HK.out _ _ ST10.out).cell 20).trans HX.out.2.2.2.2.2.2.2.2.2.2.2.2;have cb:=((HK.out _ _ ST10.out).cell 4).trans HX.out.1
  by_cases ha:x.f.choice=0
  ·have HA:=Hd ha;rw[ha] at ca;clear ha
   by_cases h4:x.f.kind=11
   ·have h41:(x.f.kind==11)=true:=by rw[h4];rfl
    go_wp2_with fail;refine(HS12.out false (fun h=>by cases h) 10 (by omega) _ ST10.out F10.out).mono ?_;rintro e y ⟨rfl,st,h5⟩
    (try go_wp2_with fail)
    go_meet
    case rel=>exact⟨st,h5⟩
   ·have h41:(x.f.kind==11)=false:=by simpa using h4
    go_wp2_with fail;refine(HS12.out _ (fun _=>bV0 HA.out h4) 10 (by omega) _ ST10.out F10.out).mono ?_;rintro e y ⟨rfl,st,h5⟩
    (try go_wp2_with fail)
    go_meet
    case rel=>exact⟨st,h5⟩
  ·have ha1:(x.f.choice==0)=false:=by simpa using ha
   go_wp2_with fail;refine(HS12.out false (fun h=>by cases h) 10 (by omega) _ ST10.out F10.out).mono ?_;rintro e y ⟨rfl,st,h5⟩
   (try go_wp2_with fail)
   go_meet
   case rel=>exact⟨st,h5⟩
 case rest =>
 obtain⟨st,h5⟩:=hcut;have ST11:=Hd st;have F11:=Hd h5;clear st h5 ST10 F10 HS12;obtain⟨va,vn,vc,cv⟩:=bUz ST11.out;go_wp2_with fail;obtain⟨a,c,ys,e1,h1,h2,h3,h4⟩:=bU3 ST11.out cv;go_ret;exact⟨a,c,ys,congrArg Ending.returned e1,h1,h2,h3,HB0.out.trans (h4.mono HB0.out.size)⟩
end
end Go.Proofs.YthjekgfoidmagaaGreatDoor
