/- Great32 -/
import Derived.Test.YtbcebibkpfklnaaGreatDoorJGreat2
set_option maxHeartbeats 16000000
set_option maxRecDepth 100000
namespace Go.Proofs.YtbcebibkpfklnaaGreatDoor
open Go Go.RowKit Num
theorem greatView_any (xs:List FactV) (a:Option Addr) (c:Nat) (w:World) (hn:xs.length≤9223372036854775807) (hr:Facts w a xs) (hf:∀ x,x∈xs→x.fits) :
  Calls Tryz.prog 33 #[.slice a xs.length c] w fun e w'=>GreatEnd ((∀ x,x∈xs→x.f.tight)∧(xs.length≤12∨1000 < xs.length∧xs.length≤1003)) e∧Below w.heap.size w w':=by
 have HR:=Lib.hid hr
 have HF:=Lib.hid hf
 clear hr hf
 by_cases hbad:(12 < xs.length∧xs.length≤1000)∨1002 < xs.length
 ·clear HR HF
  generalize xs.length=n at *
  rcases hbad with ⟨h1,h2⟩ | h1
  ·have d1:decide (12 < (n:Int))=true:=by simpa using (by omega:(12:Int) < n)
   have d2:decide ((n:Int)≤1000)=true:=by simpa using (by omega:(n:Int)≤1000)
   go_enter Tryz.func33,Tryz.ntmps33
   go_wp2
   go_ret
   exact ⟨⟨true,rfl,fun h=>by cases h⟩,Below.refl _ _⟩
  ·have d1:decide (12 < (n:Int))=true:=by simpa using (by omega:(12:Int) < n)
   have d2:decide ((n:Int)≤1000)=false:=by simpa using (by omega:¬ (n:Int)≤1000)
   have d3:decide (1002 < (n:Int))=true:=by simpa using (by omega:(1002:Int) < n)
   go_enter Tryz.func33,Tryz.ntmps33
   go_wp2
   go_ret
   exact ⟨⟨true,rfl,fun h=>by cases h⟩,Below.refl _ _⟩
 have HSZ0:Hid (xs.length≤12∨1000 < xs.length∧xs.length≤1003):=by show _∨_;omega
 by_cases h12:12 < xs.length
 ·have h1000:¬ (xs.length:Int)≤1000:=by omega
  have h1002:¬ (1002:Int) < xs.length:=by omega
  go_enter Tryz.func33,Tryz.ntmps33
  go_wp2_with fail
  go_loopw [3] (fun iv wr => ∃ k:Nat,k≤xs.length∧iv = .int .i64 k∧Hid (∀ j x,j < k→xs[j]? = some x→x.f.tight)∧Hid (Below w.heap.size w wr)) (fun iv _=>xs.length - (intOf iv).toNat)
  case atStart=>exact ⟨0,Nat.zero_le _,rfl,fun j x h=>absurd h (Nat.not_lt_zero j),Below.refl _ _⟩
  case round =>
   obtain ⟨k,hk,rfl,HS,HB⟩:=hrel
   by_cases hlt:k < xs.length
   ·obtain ⟨x,hx⟩:∃ x,xs[k]? = some x:=⟨xs[k],List.getElem?_eq_getElem hlt⟩
    obtain ⟨b,off,rfl,hbl,hc⟩:=HR.out.1.addr (k:=k) (cs:=x.cells) (by rw [List.getElem?_map,hx];rfl)
    have hxm:=List.mem_of_getElem? hx
    have hfx:=HF.out x hxm
    have HC:Hid (∀ j v,x.arr.toList[j]? = some v→wr.cell? ⟨b,off+k * 21+j,none⟩=some v):=fun j v hv=>(HB.out.cell (p:=⟨b,off+k * 21+j,none⟩) hbl).trans (hc j v hv)
    have HSZ:Hid ((Tryz.prog.info? 30).map (·.size)=some x.arr.size):=factSize x.f x.pa x.oa x.pc x.oc
    have HG:Hid (Calls Tryz.prog 35 #[.agg x.arr] wr fun e w'=>(∃ g,e = .returned (.bool g)∧(g=false→x.f.tight))∧Below wr.heap.size wr w'):=great13_any x.f x.pa x.oa x.pc x.oc wr ((HR.out.2 x hxm).below HB.out) (by have:=hfx.npicks;unfold maxLen at this;omega) (by have:=hfx.noptions;unfold maxLen at this;omega)
    have HK:Hid (x.f.tight→∀ j y,j < k+1→xs[j]? = some y→y.f.tight):=fun h j y hj hy=>by
     by_cases e:j=k
     ·subst e;rw [hx] at hy;injection hy with hy;subst hy;exact h
     ·exact HS.out j y (by omega) hy
    clear HS hc hx hxm hfx
    generalize x.arr=fc at *
    go_wp2_with (refine wpList_load_at rfl 30 _ rfl b (off+k * 21) rfl fc _ HC.out Tryz.underlying30 rfl HSZ.out ?_)
    refine HG.out.mono ?_
    rintro e w1 ⟨⟨g,rfl,hg⟩,hb⟩
    have HB1:=Lib.hid (below_up HB.out hb)
    cases g with
    | true =>
     go_wp2
     go_ret
     exact ⟨⟨true,rfl,fun h=>by cases h⟩,HB1.out⟩
    | false =>
     have HK2:=Lib.hid (HK.out (hg rfl))
     clear hg HK
     go_wp2
     go_roundw
     case rel=>exact ⟨k+1,by omega,by go_num,HK2,HB1⟩
     case measure=>simp [intOf];omega
   ·obtain rfl:k=xs.length:=by omega
    have HA:Hid (∀ x,x∈xs→x.f.tight):=fun x hx=>by
     obtain ⟨j,hj⟩:=List.getElem?_of_mem hx
     exact HS.out j x (List.getElem?_eq_some_iff.1 hj).1 hj
    clear HS
    go_wp2
    go_ret
    exact ⟨⟨_,rfl,fun _=>⟨HA.out,HSZ0.out⟩⟩,HB.out⟩
 ·have h1002:¬ (1002:Int) < xs.length:=by omega
  go_enter Tryz.func33,Tryz.ntmps33
  go_wp2_with fail
  go_loopw [3] (fun iv wr => ∃ k:Nat,k≤xs.length∧iv = .int .i64 k∧Hid (∀ j x,j < k→xs[j]? = some x→x.f.tight)∧Hid (Below w.heap.size w wr)) (fun iv _=>xs.length - (intOf iv).toNat)
  case atStart=>exact ⟨0,Nat.zero_le _,rfl,fun j x h=>absurd h (Nat.not_lt_zero j),Below.refl _ _⟩
  case round =>
   obtain ⟨k,hk,rfl,HS,HB⟩:=hrel
   by_cases hlt:k < xs.length
   ·obtain ⟨x,hx⟩:∃ x,xs[k]? = some x:=⟨xs[k],List.getElem?_eq_getElem hlt⟩
    obtain ⟨b,off,rfl,hbl,hc⟩:=HR.out.1.addr (k:=k) (cs:=x.cells) (by rw [List.getElem?_map,hx];rfl)
    have hxm:=List.mem_of_getElem? hx
    have hfx:=HF.out x hxm
    have HC:Hid (∀ j v,x.arr.toList[j]? = some v→wr.cell? ⟨b,off+k * 21+j,none⟩=some v):=fun j v hv=>(HB.out.cell (p:=⟨b,off+k * 21+j,none⟩) hbl).trans (hc j v hv)
    have HSZ:Hid ((Tryz.prog.info? 30).map (·.size)=some x.arr.size):=factSize x.f x.pa x.oa x.pc x.oc
    have HG:Hid (Calls Tryz.prog 35 #[.agg x.arr] wr fun e w'=>(∃ g,e = .returned (.bool g)∧(g=false→x.f.tight))∧Below wr.heap.size wr w'):=great13_any x.f x.pa x.oa x.pc x.oc wr ((HR.out.2 x hxm).below HB.out) (by have:=hfx.npicks;unfold maxLen at this;omega) (by have:=hfx.noptions;unfold maxLen at this;omega)
    have HK:Hid (x.f.tight→∀ j y,j < k+1→xs[j]? = some y→y.f.tight):=fun h j y hj hy=>by
     by_cases e:j=k
     ·subst e;rw [hx] at hy;injection hy with hy;subst hy;exact h
     ·exact HS.out j y (by omega) hy
    clear HS hc hx hxm hfx
    generalize x.arr=fc at *
    go_wp2_with (refine wpList_load_at rfl 30 _ rfl b (off+k * 21) rfl fc _ HC.out Tryz.underlying30 rfl HSZ.out ?_)
    refine HG.out.mono ?_
    rintro e w1 ⟨⟨g,rfl,hg⟩,hb⟩
    have HB1:=Lib.hid (below_up HB.out hb)
    cases g with
    | true =>
     go_wp2
     go_ret
     exact ⟨⟨true,rfl,fun h=>by cases h⟩,HB1.out⟩
    | false =>
     have HK2:=Lib.hid (HK.out (hg rfl))
     clear hg HK
     go_wp2
     go_roundw
     case rel=>exact ⟨k+1,by omega,by go_num,HK2,HB1⟩
     case measure=>simp [intOf];omega
   ·obtain rfl:k=xs.length:=by omega
    have HA:Hid (∀ x,x∈xs→x.f.tight):=fun x hx=>by
     obtain ⟨j,hj⟩:=List.getElem?_of_mem hx
     exact HS.out j x (List.getElem?_eq_some_iff.1 hj).1 hj
    clear HS
    go_wp2
    go_ret
    exact ⟨⟨_,rfl,fun _=>⟨HA.out,HSZ0.out⟩⟩,HB.out⟩
def IndexEnd (P:Prop) (e:Ending):Prop:=∃ i:Int,e = .returned (.int .i64 i)∧(decide (0≤i)=false→P)
theorem indexGreat_any (xs:List FactV) (a:Option Addr) (c:Nat) (w:World) (hn:xs.length≤1000000) (hr:Facts w a xs) (hf:∀ x,x∈xs→x.fits) :
  Calls Tryz.prog 49 #[.slice a xs.length c,.func (.func 35) #[] #[]] w fun e w'=>IndexEnd (∀ x,x∈xs→x.f.tight) e∧Below w.heap.size w w':=by
 have HR:=Lib.hid hr
 have HF:=Lib.hid hf
 clear hr hf
 go_enter Tryz.func49,Tryz.ntmps49
 go_wp2_with fail
 go_loopw [8] (fun iv wr => ∃ k:Nat,k≤xs.length∧iv = .int .i64 k∧Hid (∀ j x,j < k→xs[j]? = some x→x.f.tight)∧Hid (Below w.heap.size w wr)) (fun iv _=>xs.length - (intOf iv).toNat)
 case atStart=>exact ⟨0,Nat.zero_le _,rfl,fun j x h=>absurd h (Nat.not_lt_zero j),Below.refl _ _⟩
 case round =>
  obtain ⟨k,hk,rfl,HS,HB⟩:=hrel
  by_cases hlt:k < xs.length
  ·obtain ⟨x,hx⟩:∃ x,xs[k]? = some x:=⟨xs[k],List.getElem?_eq_getElem hlt⟩
   obtain ⟨b,off,rfl,hbl,hc⟩:=HR.out.1.addr (k:=k) (cs:=x.cells) (by rw [List.getElem?_map,hx];rfl)
   have hxm:=List.mem_of_getElem? hx
   have hfx:=HF.out x hxm
   have HC:Hid (∀ j v,x.arr.toList[j]? = some v→wr.cell? ⟨b,off+k * 21+j,none⟩=some v):=fun j v hv=>(HB.out.cell (p:=⟨b,off+k * 21+j,none⟩) hbl).trans (hc j v hv)
   have HSZ:Hid ((Tryz.prog.info? 30).map (·.size)=some x.arr.size):=factSize x.f x.pa x.oa x.pc x.oc
   have HG:Hid (Calls Tryz.prog 35 #[.agg x.arr] wr fun e w'=>(∃ g,e = .returned (.bool g)∧(g=false→x.f.tight))∧Below wr.heap.size wr w'):=great13_any x.f x.pa x.oa x.pc x.oc wr ((HR.out.2 x hxm).below HB.out) (by have:=hfx.npicks;unfold maxLen at this;omega) (by have:=hfx.noptions;unfold maxLen at this;omega)
   have HK:Hid (x.f.tight→∀ j y,j < k+1→xs[j]? = some y→y.f.tight):=fun h j y hj hy=>by
    by_cases e:j=k
    ·subst e;rw [hx] at hy;injection hy with hy;subst hy;exact h
    ·exact HS.out j y (by omega) hy
   clear HS hc hx hxm hfx
   generalize x.arr=fc at *
   go_wp2_with (refine wpList_load_at rfl 30 _ rfl b (off+k * 21) rfl fc _ HC.out Tryz.underlying30 rfl HSZ.out ?_)
   refine HG.out.mono ?_
   rintro e w1 ⟨⟨g,rfl,hg⟩,hb⟩
   have HB1:=Lib.hid (below_up HB.out hb)
   cases g with
   | true =>
    go_wp2
    go_ret
    exact ⟨⟨_,rfl,fun h=>by simp at h⟩,HB1.out⟩
   | false =>
    have HK2:=Lib.hid (HK.out (hg rfl))
    clear hg HK
    go_wp2
    go_roundw
    case rel=>exact ⟨k+1,by omega,by go_num,HK2,HB1⟩
    case measure=>simp [intOf];omega
  ·obtain rfl:k=xs.length:=by omega
   have HA:Hid (∀ x,x∈xs→x.f.tight):=fun x hx=>by
    obtain ⟨j,hj⟩:=List.getElem?_of_mem hx
    exact HS.out j x (List.getElem?_eq_some_iff.1 hj).1 hj
   clear HS
   go_wp2
   go_ret
   exact ⟨⟨_,rfl,fun _=>HA.out⟩,HB.out⟩
theorem containsGreat_any (xs:List FactV) (a:Option Addr) (c:Nat) (w:World) (hn:xs.length≤1000000) (hr:Facts w a xs) (hf:∀ x,x∈xs→x.fits) :
  Calls Tryz.prog 34 #[.slice a xs.length c,.func (.func 35) #[] #[]] w fun e w'=>GreatEnd (∀ x,x∈xs→x.f.tight) e∧Below w.heap.size w w':=by
 have HI:=Lib.hid (indexGreat_any xs a c w hn hr hf)
 clear hr hf hn
 generalize (∀ x,x∈xs→x.f.tight)=P at *
 generalize xs.length=n at *
 go_enter Tryz.func34,Tryz.ntmps34
 go_wp2_with fail
 refine HI.out.mono ?_
 rintro e w1 ⟨⟨i,rfl,hi⟩,hb⟩
 go_wp2
 go_ret
 exact ⟨⟨_,rfl,hi⟩,hb⟩
theorem great32_any (xs ys:List FactV) (a a2:Option Addr) (c c2:Nat) (w:World) (hn:xs.length≤9223372036854775807) (hr:Facts w a xs) (hf:∀ x,x∈xs→x.fits) (hn2:ys.length≤1000000) (hr2:Facts w a2 ys) (hf2:∀ x,x∈ys→x.fits) :
  Calls Tryz.prog 10 #[.slice a xs.length c,.slice a2 ys.length c2] w fun e w'=>GreatEnd (((∀ x,x∈xs→x.f.tight)∧(xs.length≤12∨1000 < xs.length∧xs.length≤1003))∧∀ y,y∈ys→y.f.tight) e∧Below w.heap.size w w':=by
 have HG:=Lib.hid (greatView_any xs a c w hn hr hf)
 have HC:Hid (∀ W,Below w.heap.size w W→Calls Tryz.prog 34 #[.slice a2 ys.length c2,.func (.func 35) #[] #[]] W fun e w'=>GreatEnd (∀ y,y∈ys→y.f.tight) e∧Below W.heap.size W w'):=fun W hb=>containsGreat_any ys a2 c2 W hn2 (hr2.below hb) hf2
 clear hr hf hn hr2 hf2 hn2
 generalize ((∀ x,x∈xs→x.f.tight)∧(xs.length≤12∨1000 < xs.length∧xs.length≤1003))=P at *
 generalize (∀ y,y∈ys→y.f.tight)=R at *
 generalize xs.length=n at *
 generalize ys.length=m at *
 go_enter Tryz.func10,Tryz.ntmps10
 go_wp2_with fail
 refine HG.out.mono ?_
 rintro e w1 ⟨⟨g,rfl,hg⟩,hb⟩
 have HB1:=Lib.hid hb
 have HGG:=Lib.hid hg
 clear hg hb
 cases g with
 | true =>
  go_wp2_with fail
  go_ret
  exact ⟨⟨true,rfl,fun h=>by cases h⟩,HB1.out⟩
 | false =>
  have HP:=Lib.hid (HGG.out rfl)
  clear HGG
  go_wp2_with fail
  refine (HC.out _ HB1.out).mono ?_
  rintro e w2 ⟨⟨g2,rfl,hg2⟩,hb2⟩
  have HB2:=Lib.hid (below_up HB1.out hb2)
  have HG2:=Lib.hid hg2
  clear hg2 hb2
  go_wp2_with fail
  go_ret
  exact ⟨⟨_,rfl,fun h=>⟨HP.out,HG2.out h⟩⟩,HB2.out⟩
end Go.Proofs.YtbcebibkpfklnaaGreatDoor
