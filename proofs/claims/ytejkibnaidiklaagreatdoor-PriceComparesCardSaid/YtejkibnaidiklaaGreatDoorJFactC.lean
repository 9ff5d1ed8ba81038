/- FactC LogP Long EqNil -/
import Derived.Test.YtejkibnaidiklaaGreatDoorJKinds
import Derived.Test.YtejkibnaidiklaaGreatDoorJEmpty
set_option maxHeartbeats 16000000
set_option maxRecDepth 100000
namespace Go.Proofs.YtejkibnaidiklaaGreatDoor
open Tryz
section
open Go Go.RowKit Go.Maps Go.MapKept Go.WideElems
def fA(l:List UInt8):Int:=if dC l=true then 0 else 23
def gM(f:aE)(code:Bool):Int :=
 if code=true then(if fV f.other=true then(if(f.other==f.cur)=true then 18 else 0) else 12)
 else if dC f.other=true then(if(f.other==f.ins)=true then 18 else 0) else 23
def bT(f:aE)(k:bH)(i:Nat):Int :=
 if i=0 then fA f.ins else if i=1 then gM f k.code else if i=2 then(if fV f.cur=true then 0 else 12) else if i=3 then fA f.target
 else if i=10 then jF f else if i=11 then iP f else if i=12 then(if f.choice<0 then 2 else 0)
 else match k.nums.find? (fun p=>p.1==(i:Int)) with
  |some p=>lim p.2.1 p.2.2 (f.num i).n (f.num i).d
  |none=>0
def bX(f:aE)(k:bH)(i:Nat):Int:=if k.has.getD i false=true then bT f k i else if f.zero i=true then 0 else 1
def bS(f:aE)(k:bH):List Nat->Int
 | []=>0
 |i::r=>if bX f k i≠0 then bX f k i else bS f k r
def aE.blank(f:aE):Bool :=
 decide (f.day=0)&&decide (f.kind=0)&&f.ins.isEmpty&&f.other.isEmpty&&f.cur.isEmpty&&f.target.isEmpty&&f.q.isEmpty&&f.amt.isEmpty&&f.fee.isEmpty&&f.price.none&&f.ratio.none&&f.share.none&&decide (f.picks.length=0)&&decide (f.options.length=0)&&decide (f.choice=0)
def bY(f:aE):Int :=
 if dC f.key=false then 23 else if f.stamp<0 then 2
 else if f.cancelled=true then(if f.blank=true then 0 else 1)
 else if f.day < -25567∨84005<f.day then 13
 else match aX.find? (fun p=>p.1==f.kind) with
  |some p=>bS f p.2 (List.range 13)
  |none=>7
end
section
open Go Go.RowKit Num
theorem bM(l:List UInt8)(w:World):
  Calls prog 17 #[.string ⟨l.toArray⟩] w fun e w'=>e=.returned (.bool (decide (13<l.length)))/\w=w':=by
 have hd:decide (13<l.length)=decide ((13:Int)<(l.length:Int)):=by rw[decide_eq_decide];omega
 rw[hd];go_enter func17,ntmps17;go_wp2;go_ret;exact⟨rfl,rfl⟩
theorem Ky(n d:List UInt8)(b c:Nat)(w:World)(h0:w.cell? ⟨b,0,none⟩=some (.string ⟨n.toArray⟩))(h1:w.cell? ⟨b,1,none⟩=some (.string ⟨d.toArray⟩)):
  Calls prog 16 #[.slice (some ⟨b,0,none⟩) 1 c] w fun e w'=>e=.returned (.bool (decide (13<n.length) || decide (13<d.length)))/\Below w.heap.size w w':=by
 have hd:decide (13<n.length)=decide ((13:Int)<(n.length:Int)):=by rw[decide_eq_decide];omega
 have hd':decide (13<d.length)=decide ((13:Int)<(d.length:Int)):=by rw[decide_eq_decide];omega
 rw[hd,hd'];clear hd hd';cases hn:decide ((13:Int)<(n.length:Int)) <;> cases hm:decide ((13:Int)<(d.length:Int))
 all_goals
  go_enter func16,ntmps16;go_wp2_with fail;go_loopw [3] (fun iv wr=>w=wr/\(iv=.int .i64 0∨(iv=.int .i64 1/\(decide ((13:Int)<(n.length:Int)) || decide ((13:Int)<(d.length:Int)))=false))) (fun iv _=>1-(intOf iv).toNat)
  case atStart=>exact⟨rfl,.inl rfl⟩
  case round =>
   obtain⟨rfl,rfl|⟨rfl,hb⟩⟩:=hrel
   ·go_wp2
    first
     |(go_ret;exact⟨rfl,Br _ _⟩)
     |exact⟨⟨trivial,.inr ⟨rfl,by rw[hn,hm];rfl⟩⟩,by simp[intOf]⟩
   ·first
     |(rw[hn,hm] at hb;simp at hb;done)
     |(go_wp2;go_ret;exact⟨rfl,Br _ _⟩)
theorem bR(f:bZ)(w:World):
  Calls prog 168 #[f.agg] w fun e w'=>e=.returned (.bool (decide (13<f.n.length) || decide (13<f.d.length)))/\Below w.heap.size w w':=by
 unfold bZ.agg;obtain⟨n,d⟩:=f;dsimp only;have KX:=(aP.new0 w #[.string ⟨n.toArray⟩,.string ⟨d.toArray⟩] 28)
 have k0:=KX.cell 0;have k1:=KX.cell 1;have HL:=Hd (fun b c W h0 h1=>Ky n d b c W h0 h1);generalize(decide (13<n.length) || decide (13<d.length))=r at *;clear KX;go_enter func168,ntmps168;go_wp2_with fail;have KY:=aP.new0 (w.alloc (.cells #[.string ⟨n.toArray⟩,.string ⟨d.toArray⟩] 28)) #[.string ⟨n.toArray⟩,.string ⟨d.toArray⟩] 28;rw[World.size_alloc] at KY;refine(HL.out _ _ _ (KY.cell 0) (KY.cell 1)).mono ?_;rintro e w1 ⟨rfl,hb⟩;go_wp2;go_ret;exact⟨rfl,aA (((Br w.heap.size w).alloc (Nl _) _).alloc (by simp) _) hb⟩
end
section
open Go Go.RowKit Num
def Ax(key:List UInt8)(stamp:Int)(c:Bool):Array Value:=#[.string ⟨key.toArray⟩,.int .i64 stamp,.bool c,.int .i64 0,.int .i64 0,.string ⟨#[]⟩,.string ⟨#[]⟩,.string ⟨#[]⟩,.string ⟨#[]⟩,.string ⟨#[]⟩,.string ⟨#[]⟩,.string ⟨#[]⟩,.string ⟨#[]⟩,.string ⟨#[]⟩,.string ⟨#[]⟩,.string ⟨#[]⟩,.string ⟨#[]⟩,.string ⟨#[]⟩,.slice none 0 0,.slice none 0 0,.int .i64 0]
theorem Ih(a:Option Addr)(n c:Nat)(r:Bool)(hr:r=decide (n=0))(w:World):
  Calls prog 176 #[.slice a n c,.slice none 0 0] w fun e w'=>e=.returned (.bool r)/\Below w.heap.size w w':=by
 subst hr;cases n with
 |zero =>
  go_enter func176,ntmps176;go_wp2;refine wp_loop_once ?_;go_wp2;go_ret;exact⟨rfl,Br _ _⟩
 |succ n =>
  have hn:((n:Int)+1==0)=false:=by simp;omega
  go_enter func176,ntmps176;go_wp2;go_ret;exact⟨rfl,Br _ _⟩
theorem Bs(a:Option Addr)(n c:Nat)(r:Bool)(hr:r=decide (n=0))(w:World):
  Calls prog 177 #[.slice a n c,.slice none 0 0] w fun e w'=>e=.returned (.bool r)/\Below w.heap.size w w':=by
 subst hr;cases n with
 |zero =>
  go_enter func177,ntmps177;go_wp2;refine wp_loop_once ?_;go_wp2;go_ret;exact⟨rfl,Br _ _⟩
 |succ n =>
  have hn:((n:Int)+1==0)=false:=by simp;omega
  go_enter func177,ntmps177;go_wp2;go_ret;exact⟨rfl,Br _ _⟩
end
end Go.Proofs.YtejkibnaidiklaaGreatDoor
