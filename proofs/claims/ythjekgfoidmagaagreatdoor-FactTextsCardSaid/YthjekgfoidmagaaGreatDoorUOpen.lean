/- LotAll AgingP Open OpenFacts -/
import Derived.Test.YthjekgfoidmagaaGreatDoorUDate
import Derived.Test.YthjekgfoidmagaaGreatDoorRows
import Derived.Test.YthjekgfoidmagaaGreatDoorUFact
import Derived.Maps.AppendAt
import Derived.ProofKit
import Derived.OpenShut
import Derived.LaidMore
import Derived.Lay
import Derived.Deep.Slices
import Derived.HandedShaped
import Derived.Stop.Joined
set_option maxHeartbeats 16000000
set_option maxRecDepth 100000
namespace Go.Proofs.YthjekgfoidmagaaGreatDoor
section
open Go.RowKit Num Dt
def Mx(w:World)(a:Option Addr)(zs:List Int):Prop :=
 zs=[]∨∃b off,a=some ⟨b,off,none⟩/\b<w.heap.size/\∀k z,zs[k]?=some z->w.cell? ⟨b,off+k,none⟩=some (.int .i64 z)
theorem Mx.below{w w':World}{a:Option Addr}{zs:List Int}(h:Mx w a zs)(hb:Below w.heap.size w w'):Mx w' a zs:=by
 rcases h with h|⟨b,off,ha,hlt,hc⟩
 ·exact .inl h
 ·exact .inr ⟨b,off,ha,Nat.lt_of_lt_of_le hlt hb.size,fun k z hz=>(hb.cell (p:=⟨b,off+k,none⟩) hlt).trans (hc k z hz)⟩
theorem Mx.addr{w:World}{a:Option Addr}{zs:List Int}(h:Mx w a zs){k:Nat}{z:Int}(hz:zs[k]?=some z):
  ∃b off,a=some ⟨b,off,none⟩/\w.cell? ⟨b,off+k,none⟩=some (.int .i64 z):=by
 rcases h with h|⟨b,off,ha,_,hc⟩
 ·rw[h] at hz;simp at hz
 ·exact⟨b,off,ha,hc k z hz⟩
def Two(w:World)(base:Nat)(e:TypeId)(size:Nat)(x y:Value)(n m:Nat)(xs ys:List Value):Prop :=
 w.ownsRow base e size x n xs/\w.ownsRow base e size y m ys/\(x.ownBlock=none∨y.ownBlock=none∨x.ownBlock≠y.ownBlock)
theorem Two.below{w w':World}{base:Nat}{e:TypeId}{size:Nat}{x y:Value}{n m:Nat}{xs ys:List Value}(h:Two w base e size x y n m xs ys)(hb:Below w.heap.size w w'):Two w' base e size x y n m xs ys :=
 have hg:w.grownBy w' none:=⟨hb.os,hb.tape,hb.output,hb.size,fun k hk _=>hb.block k hk⟩
 have hne:∀v:Value,v.ownBlock=none∨v.ownBlock≠none:=fun _=>Classical.em _
 ⟨h.1.kept hg (hne x),h.2.1.kept hg (hne y),h.2.2⟩
theorem Two.step{w w':World}{base:Nat}{e:TypeId}{size:Nat}{x y x':Value}{n m n':Nat}{xs ys xs':List Value}(h:Two w base e size x y n m xs ys)(hx:w'.ownsRow base e size x' n' xs')(hg:w.grownBy w' x.ownBlock)(hl:x'.ownBlock=x.ownBlock∨x'.ownBlock=some w.heap.size):
  Two w' base e size x' y n' m xs' ys:=by
 obtain⟨h1,h2,h3⟩:=h;refine⟨hx,h2.kept hg ?_,?_⟩
 ·rcases h3 with h|h|h
  ·rw[h];exact Classical.em _
  ·exact .inl h
  ·exact .inr (Ne.symm h)
 ·rcases hl with hl|hl
  ·rw[hl];exact h3
  ·cases hy:y.ownBlock with
   |none=>exact .inr (.inl rfl)
   |some k =>
    have:=(h2.lt k hy).2;refine .inr (.inr ?_);rw[hl];intro e;injection e with e
    omega
theorem Ut{w w':World}{base:Nat}{e:TypeId}{size:Nat}{x:Value}{n:Nat}{xs:List Value}{w0:World}(h:w.ownsRow base e size x n xs)(hg:w.grownBy w' x.ownBlock)(hb:Below base w0 w)(hB:base<=w.heap.size):Below base w0 w' :=
 hb.grown hg hB (fun k hk=>(h.lt k hk).1)
end
section
open Go.RowKit Num Dt Go.ChangeShapes Go.WideShapes Go.ChangeAt
structure aF where
 f:aE
 pa:Option Addr
 pc:Nat
 oa:Option Addr
 oc:Nat
def aF.arr(x:aF):Array Value:=x.f.cells x.pa x.pc x.oa x.oc
def aF.cells(x:aF):List Value:=x.arr.toList
def bZ.fits(f:bZ):Prop:=f.n.length<=maxLen/\f.d.length<=maxLen
structure aF.fits(x:aF):Prop where
 picks:x.f.picks.length<=x.pc
 options:x.f.options.length<=x.oc
 npicks:x.f.picks.length<=maxLen
 noptions:x.f.options.length<=maxLen
 key:x.f.key.length<=maxLen
 ins:x.f.ins.length<=maxLen
 other:x.f.other.length<=maxLen
 cur:x.f.cur.length<=maxLen
 target:x.f.target.length<=maxLen
 q:x.f.q.length<=maxLen
 amt:x.f.amt.length<=maxLen
 fee:x.f.fee.length<=maxLen
 price:x.f.price.fits
 ratio:x.f.ratio.fits
 share:x.f.share.fits
 pick:∀p,p∈x.f.picks->p.lot.length<=maxLen/\p.q.length<=maxLen
 option:∀o,o∈x.f.options->o.other.length<=maxLen/\o.ratio.fits/\o.price.fits/\o.value.fits
 stamp:(Lit.int .i64 x.f.stamp).wf=true
 day:(Lit.int .i64 x.f.day).wf=true
 kind:(Lit.int .i64 x.f.kind).wf=true
 choice:(Lit.int .i64 x.f.choice).wf=true
def fS(w:World)(a:Option Addr)(xs:List aF):Prop:=gJ w a 21 (xs.map aF.cells)/\∀x,x∈xs->x.f.Behind w x.pa x.oa
theorem fS.below{w w':World}{a:Option Addr}{xs:List aF}(h:fS w a xs)(hb:Below w.heap.size w w'):fS w' a xs:=⟨h.1.below hb,fun x hx=>(h.2 x hx).below hb⟩
section
variable {H:Type}{enc:TypeId×Value->H}{P:Program}{w:World}{base:Nat}{sp:Nat->Bool}{held:Bool}
end
section
variable {H:Type}{enc:TypeId×Value->H}{w:World}{base:Nat}{held:Bool}
end
end
end Go.Proofs.YthjekgfoidmagaaGreatDoor
