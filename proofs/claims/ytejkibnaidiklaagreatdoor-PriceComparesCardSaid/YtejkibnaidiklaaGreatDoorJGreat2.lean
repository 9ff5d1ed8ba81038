/- Great2 GreatLog -/
import Derived.Test.YtejkibnaidiklaaGreatDoorJGreatA
import Derived.Test.YtejkibnaidiklaaGreatDoorJGreat
set_option maxHeartbeats 16000000
set_option maxRecDepth 100000
namespace Go.Proofs.YtejkibnaidiklaaGreatDoor
open Go.Proofs.Tryz
section
open Go Go.RowKit Num
theorem gX{f:bZ}(h:bI f=false):f.small:=by
 unfold bI at h;simp at h;exact⟨by omega,by omega⟩
structure aE.tight(f:aE):Prop where
 small:f.small
 q:f.q.length<=13
 amt:f.amt.length<=13
 fee:f.fee.length<=13
 price:bI f.price=false
 ratio:bI f.ratio=false
 share:bI f.share=false
 pick:∀p,p∈f.picks->p.q.length<=13
 option:∀o,o∈f.options->bI o.ratio=false/\bI o.price=false/\bI o.value=false
theorem qH(f:aE)(pa oa:Option Addr)(pc oc:Nat)(w:World)(hbh:f.Behind w pa oa)(hpm:f.picks.length<=9223372036854775807)(hom:f.options.length<=9223372036854775807):
  Calls prog 117 #[.agg (f.cells pa pc oa oc)] w fun e w'=>(∃g,e=.returned (.bool g)/\(g=false->f.tight))/\Below w.heap.size w w':=by
 cases h0:decide ((24:Int)<(f.key.length:Int)) with
 |true =>
  refine(Hv f pa oa pc oc w h0).mono ?_;rintro e w' ⟨rfl,hb⟩;exact⟨⟨true,rfl,fun h=>by cases h⟩,hb⟩
 |false =>
 cases h1:decide ((24:Int)<(f.ins.length:Int)) with
 |true =>
  refine(Hu f pa oa pc oc w h0 h1).mono ?_;rintro e w' ⟨rfl,hb⟩;exact⟨⟨true,rfl,fun h=>by cases h⟩,hb⟩
 |false =>
 cases h2:decide ((24:Int)<(f.other.length:Int)) with
 |true =>
  refine(Ht f pa oa pc oc w h0 h1 h2).mono ?_;rintro e w' ⟨rfl,hb⟩;exact⟨⟨true,rfl,fun h=>by cases h⟩,hb⟩
 |false =>
 cases h3:decide ((24:Int)<(f.cur.length:Int)) with
 |true =>
  refine(Hs f pa oa pc oc w h0 h1 h2 h3).mono ?_;rintro e w' ⟨rfl,hb⟩;exact⟨⟨true,rfl,fun h=>by cases h⟩,hb⟩
 |false =>
 cases h4:decide ((24:Int)<(f.target.length:Int)) with
 |true =>
  refine(Hr f pa oa pc oc w h0 h1 h2 h3 h4).mono ?_;rintro e w' ⟨rfl,hb⟩;exact⟨⟨true,rfl,fun h=>by cases h⟩,hb⟩
 |false =>
 cases h5:decide (13<f.q.length) with
 |true =>
  refine(Hq f pa oa pc oc w h0 h1 h2 h3 h4 h5).mono ?_;rintro e w' ⟨rfl,hb⟩;exact⟨⟨true,rfl,fun h=>by cases h⟩,hb⟩
 |false =>
 cases h6:decide (13<f.amt.length) with
 |true =>
  refine(Hp f pa oa pc oc w h0 h1 h2 h3 h4 h5 h6).mono ?_;rintro e w' ⟨rfl,hb⟩;exact⟨⟨true,rfl,fun h=>by cases h⟩,hb⟩
 |false =>
 cases h7:decide (13<f.fee.length) with
 |true =>
  refine(Ho f pa oa pc oc w h0 h1 h2 h3 h4 h5 h6 h7).mono ?_;rintro e w' ⟨rfl,hb⟩;exact⟨⟨true,rfl,fun h=>by cases h⟩,hb⟩
 |false =>
 cases h8:(decide (13<f.price.n.length) || decide (13<f.price.d.length)) with
 |true =>
  refine(Hn f pa oa pc oc w h0 h1 h2 h3 h4 h5 h6 h7 h8).mono ?_;rintro e w' ⟨rfl,hb⟩;exact⟨⟨true,rfl,fun h=>by cases h⟩,hb⟩
 |false =>
 cases h9:(decide (13<f.ratio.n.length) || decide (13<f.ratio.d.length)) with
 |true =>
  refine(Hm f pa oa pc oc w h0 h1 h2 h3 h4 h5 h6 h7 h8 h9).mono ?_;rintro e w' ⟨rfl,hb⟩;exact⟨⟨true,rfl,fun h=>by cases h⟩,hb⟩
 |false =>
 cases h10:(decide (13<f.share.n.length) || decide (13<f.share.d.length)) with
 |true =>
  refine(Eg f pa oa pc oc w h0 h1 h2 h3 h4 h5 h6 h7 h8 h9 h10).mono ?_;rintro e w' ⟨rfl,hb⟩;exact⟨⟨true,rfl,fun h=>by cases h⟩,hb⟩
 |false =>
 refine(Ln f pa oa pc oc w hbh hpm hom h0 h1 h2 h3 h4 h5 h6 h7 h8 h9 h10).mono ?_;rintro e w' ⟨⟨g,rfl,hg⟩,hb⟩;refine⟨⟨g,rfl,fun h=>?_⟩,hb⟩;obtain⟨g1,g2,g3,g4⟩:=hg h;simp only[decide_eq_false_iff_not] at h0 h1 h2 h3 h4 h5 h6 h7;refine⟨⟨by omega,by omega,by omega,by omega,by omega,by omega,by omega,by omega,gX h8,gX h9,gX h10,by omega,fun p hp=>?_,by omega,fun o ho=>?_⟩,by omega,by omega,by omega,h8,h9,h10,fun p hp=>?_,fun o ho=>?_⟩
 ·have:=g3 p hp;unfold bJ.ok13 at this;simp at this;exact⟨by omega,by omega⟩
 ·have:=g4 o ho;unfold eJ.ok13 at this;simp at this;exact⟨by omega,gX this.1.1.2,gX this.1.2,gX this.2⟩
 ·have:=g3 p hp;unfold bJ.ok13 at this;simp at this;omega
 ·have:=g4 o ho;unfold eJ.ok13 at this;simp at this;exact⟨this.1.1.2,this.1.2,this.2⟩
end
section
open Go Go.RowKit Num
def uK(P:Prop)(e:Ending):Prop:=∃g,e=.returned (.bool g)/\(g=false->P)
end
end Go.Proofs.YtejkibnaidiklaaGreatDoor
