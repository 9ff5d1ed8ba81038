/- Kinds1 Kinds1b KindP BetweenK KTab Kinds2 FactC LogP Long EqNil -/
import Derived.Test.YthjekgfoidmagaaGreatDoorUValue
set_option maxHeartbeats 16000000
set_option maxRecDepth 100000
namespace Go.Proofs.YthjekgfoidmagaaGreatDoor
open Tryz
section
open Go Go.RowKit Go.Maps Go.MapKept Go.WideElems
def aK(word:List UInt8)(cls:Int)(hs:List Bool)(m:Value)(code:Bool):Array Value:=([Value.string ⟨word.toArray⟩,Value.int .i64 cls]++hs.map Value.bool ++ [m,Value.bool code]).toArray
def iV(kvs:List (Int×Value))(more:List Int):List Bool:=(List.range 13).map fun (i:Nat)=>kvs.any (fun p=>p.1==(i:Int)) || more.contains (i:Int)
theorem aP.keptN{w w':World}{b:Nat}{cs:Array Value}{T:TypeId}(h:aP w b cs T)(hg:w.grownBy w' none):aP w' b cs T :=
 ⟨Nat.lt_of_lt_of_le h.1 hg.size,(hg.block b h.1 (by simp)).trans h.2⟩
theorem pA{word:List UInt8}{cls:Int}{hs:List Bool}{m:Value}{code:Bool}{i:Nat}(hl:i<hs.length):(aK word cls hs m code)[2+i]?=some (.bool (hs.getD i false)):=by
 unfold aK;rw[List.getElem?_toArray,List.append_assoc,List.getElem?_append_right (by simp),List.getElem?_append_left (by simpa using hl)];simp[List.getD_eq_getElem?_getD,Lg hl]
theorem aY0{w:World}{b:Nat}{word:List UInt8}{cls:Int}{hs:List Bool}{m:Value}{code:Bool}{T:TypeId}{i:Nat}(h:aP w b (aK word cls hs m code) T)(hl:i<hs.length):
  aP (w.setCell ⟨b,2+i,none⟩ (.bool true)) b (aK word cls (hs.set i true) m code) T:=by
 refine⟨by simpa[World.setCell] using h.1,?_⟩;rw[heap_setCell_same w b (2+i) _ _ _ h.2];congr 2;unfold aK;rw[List.setIfInBounds_toArray,List.append_assoc,List.append_assoc,List.set_append_right _ _ (by simp),List.set_append_left _ _ (by simpa using hl)];simp[List.map_set]
theorem rF(W:World)(b o:Nat)(v:Value):W.grownBy (W.setCell ⟨b,o,none⟩ v) (some b):=by
 refine⟨?_,?_,?_,?_,fun i hi hne=>Below.heap_setCell W _ v i (fun e=>hne (by rw[e]))⟩
 all_goals first|rfl|simp[World.setCell]
theorem qI{hs:List Bool}{x i:Nat}(hx:x<hs.length):(hs.set x true).getD i false=if i=x then true else hs.getD i false:=by
 rw[List.getD_eq_getElem?_getD,List.getD_eq_getElem?_getD,List.getElem?_set]
 by_cases h:x=i
 ·subst h;simp[hx]
 ·rw[if_neg h,if_neg (Ne.symm h)]
theorem oJ:(prog.info? 62).map (·.size)=some 17:=by kernel_rfl
theorem lJ{word:List UInt8}{cls:Int}{hs:List Bool}{m:Value}{code:Bool}(h:hs.length=13):(aK word cls hs m code).size=17:=by unfold aK;simp[h]
theorem mU{word:List UInt8}{cls:Int}{hs:List Bool}{b:Option Nat}{code:Bool}:(aK word cls hs (.map b) code).all (·.oneCell')=true:=by
 unfold aK;simp only[List.all_toArray,List.all_append,List.all_map,Bool.and_eq_true];refine⟨⟨rfl,?_⟩,rfl⟩;rw[List.all_eq_true];intro x _;rfl
theorem aAl{hs:List Bool}{kvs:List (Int×Value)}{more:List Int}(hl:hs.length=13)(h:∀i:Nat,i<13->hs.getD i false=(kvs.any (fun p=>p.1==(i:Int)) || more.contains (i:Int))):hs=iV kvs more:=by
 apply List.ext_getElem
 ·simp[iV,hl]
 ·intro i h1 h2;have:=h i (by omega);rw[List.getD_eq_getElem?_getD,Lg h1] at this;simp only[Option.getD_some] at this;rw[this];simp[iV]
theorem rV{more:List Int}{k:Nat}{x:Int}(hx:more[k]?=some x)(i:Int):(more.take (k+1)).contains i=((more.take k).contains i || i==x):=by
 rw[List.take_add_one,hx];simp;rfl
theorem Yq(key:Value)(kl:Lit)(h:keyOf prog 3 key=some kl):∃x,key=Value.int .i64 x:=by
 obtain⟨x,hx,_⟩:=Maps.keyOf_int_inv underlying3 h;exact⟨x,hx⟩
theorem aAb(v:Value)(y:DataW Unit×List MemPlace)(_h:Ca v=some y):∃c:Value,v=c:=⟨v,rfl⟩
theorem Do(word:List UInt8)(cls:Int)(b:Nat)(kvs:List (Int×Value))(more:List Int)(ma:Option Addr)(mc:Nat)(w:World)(hmap:mD w b kvs)(hkv:∀p∈kvs,0<=p.1/\p.1<13)(hml:more.length<=100)(hmo:∀x∈more,0<=x/\x<13)(hrow:dT w ma (more.map (Value.int .i64))):
  Calls prog 87 #[.string ⟨word.toArray⟩,.int .i64 cls,.map (some b),.slice ma more.length mc] w fun e w'=>e=.returned (.agg (aK word cls (iV kvs more) (.map (some b)) false))/\Below w.heap.size w w':=by
 obtain⟨hA,n,D,hn,_,hown⟩:=hmap;have HHAS:=Hd (Yt hA hown);have HOWN:=Hd hown;have HKV:=Hd hkv;have HMO:=Hd hmo;have HROW:=Hd hrow;clear hA hown hkv hmo hrow;go_enter func87,ntmps87;go_wp2_with (at_range;refine wpList_range_own _ rfl _ 60 rfl 3 112 zR underlying60 Ca b n D rfl ((HOWN.out.alloc _).alloc _) ?_;intro w0 hrg0 hg0 hs0);simp only[World.size_alloc] at hrg0 hs0;have HRG0:=Hd hrg0;have KK0:Hid (aP w0 (w.heap.size+1) (aK word cls (List.replicate 13 false) (.map (some b)) false) 62):=by
  have h:=(aP.new0 (w.alloc (.cells #[.string ⟨#[]⟩,.int .i64 0,.bool false,.bool false,.bool false,.bool false,.bool false,.bool false,.bool false,.bool false,.bool false,.bool false,.bool false,.bool false,.bool false,.map none,.bool false] 62)) #[.string ⟨word.toArray⟩,.int .i64 cls,.bool false,.bool false,.bool false,.bool false,.bool false,.bool false,.bool false,.bool false,.bool false,.bool false,.bool false,.bool false,.bool false,.map (some b),.bool false] 62).keptN hg0;rw[World.size_alloc] at h;exact h
 have KZ0:Hid (aP w0 w.heap.size #[.string ⟨#[]⟩,.int .i64 0,.bool false,.bool false,.bool false,.bool false,.bool false,.bool false,.bool false,.bool false,.bool false,.bool false,.bool false,.bool false,.bool false,.map none,.bool false] 62):=((aP.new0 w #[.string ⟨#[]⟩,.int .i64 0,.bool false,.bool false,.bool false,.bool false,.bool false,.bool false,.bool false,.bool false,.bool false,.bool false,.bool false,.bool false,.bool false,.map none,.bool false] 62).below (aB _ _)).keptN hg0;have HB0:Hid (Below w.heap.size w w0):=(((Br w.heap.size w).alloc (Nl _) _).alloc (by simp) _).grown hg0 (by simp;omega) (fun k e=>by cases e);clear hrg0 hg0 hs0;go_frame;simp only[World.size_alloc];go_loopw [10] (fun _ wr=>∃(left:Lit->Bool) (cnt:Nat) (hs:List Bool),Hid (wr.ranges prog 3 Ca b (w.heap.size+1+1) n D left cnt)/\hs.length=13/\Hid (∀i:Nat,i<13->hs.getD i false=(kvs.any (fun p=>p.1==(i:Int)) && !left (.int .i64 (i:Int))))/\Hid (∀k:Int,left (.int .i64 k)=true->∃v,(k,v)∈kvs)/\Hid (aP wr (w.heap.size+1) (aK word cls hs (.map (some b)) false) 62)/\Hid (aP wr w.heap.size #[.string ⟨#[]⟩,.int .i64 0,.bool false,.bool false,.bool false,.bool false,.bool false,.bool false,.bool false,.bool false,.bool false,.bool false,.bool false,.bool false,.bool false,.map none,.bool false] 62)/\Hid (Below w.heap.size w wr)) (fun _ wr=>wr.rangeLeft b (w.heap.size+1+1))
 case atStart =>
  refine⟨_,_,List.replicate 13 false,HRG0,by simp,?_,fun k hk=>(HHAS.out k).1 hk,KK0,KZ0,HB0⟩;intro i hi;have hf:(List.replicate 13 false).getD i false=false:=by
   rw[List.getD_eq_getElem?_getD,List.getElem?_replicate];split <;> rfl
  rw[hf];cases hk:kvs.any (fun p=>p.1==(i:Int))
  ·rfl
  ·obtain⟨p,hp,e⟩:=List.any_eq_true.1 hk;have e2:p.1=(i:Int):=by simpa using e
   rw[(HHAS.out (i:Int)).2 ⟨p.2,by rw[<-e2];exact hp⟩];rfl
 case round =>
  clear HRG0 KK0 KZ0 HB0;obtain⟨left,cnt,hs,hrg,hl,hI,hL,KK,KZ,HB⟩:=hrel;go_wp2_with (at_next;refine wpList_next_ranges _ rfl _ rfl 3 zR Ca (Value.int .i64) (fun v=>v) Yq aAb b (w.heap.size+1+1) n D left cnt rfl hrg.out ?_ ?_)
  ·intro hc0 hl0;have HI1:Hid (∀i:Nat,i<13->hs.getD i false=(kvs.any (fun p=>p.1==(i:Int)) || (more.take 0).contains (i:Int))):=by
    intro i hi;rw[hI.out i hi,hl0];simp
   clear hI hL hrg hc0 hl0;go_wp2_with fail;go_loopw [28] (fun iv wr=>∃(k:Nat) (hs:List Bool),k<=more.length/\iv=.int .i64 (k:Int)/\hs.length=13/\Hid (∀i:Nat,i<13->hs.getD i false=(kvs.any (fun p=>p.1==(i:Int)) || (more.take k).contains (i:Int)))/\Hid (aP wr (w.heap.size+1) (aK word cls hs (.map (some b)) false) 62)/\Hid (aP wr w.heap.size #[.string ⟨#[]⟩,.int .i64 0,.bool false,.bool false,.bool false,.bool false,.bool false,.bool false,.bool false,.bool false,.bool false,.bool false,.bool false,.bool false,.bool false,.map none,.bool false] 62)/\Hid (Below w.heap.size w wr)) (fun iv _=>more.length-(intOf iv).toNat)
   case atStart=>exact⟨0,hs,Nat.zero_le _,rfl,hl,HI1,KK,KZ,HB⟩
   case round =>
    clear HI1 KK KZ HB hl;obtain⟨k,hs,hk,rfl,hl,hI,KK,KZ,HB⟩:=hrel
    by_cases hlt:k<more.length
    ·obtain⟨x,hx⟩:∃x,more[k]?=some x:=⟨more[k],Lg hlt⟩
     obtain⟨b',off,ha,hb',hc⟩:=HROW.out.addr (by intro e;have:=congrArg List.length e;simp at this;rw[this] at hlt;simp at hlt);have cx:wr.cell? ⟨b',off+k,none⟩=some (.int .i64 x):=(HB.out.cell (p:=⟨b',off+k,none⟩) hb').trans (hc k _ (by simp[hx]));subst ha;obtain⟨hx0,hx1⟩:=HMO.out x (List.mem_of_getElem? hx);obtain⟨xn,rfl⟩:∃xn:Nat,x=xn:=⟨x.toNat,by omega⟩
     have hxn:xn<13:=by omega
     have c1:=(KK.out.cell (2+xn)).trans (pA (by omega));have f1:=aR KK.out.2 (2+xn);have KK2:=Hd (aY0 KK.out (show xn<hs.length by omega));have KZ2:=Hd (KZ.out.kept (rF wr (w.heap.size+1) (2+xn) (.bool true)) (by omega));have HB2:=Hd (HB.out.setCell (p:=⟨w.heap.size+1,2+xn,none⟩) (by show _<=w.heap.size+1;omega) (.bool true));have HI2:Hid (∀i:Nat,i<13->(hs.set xn true).getD i false=(kvs.any (fun p=>p.1==(i:Int)) || (more.take (k+1)).contains (i:Int))):=by
      intro i hi;rw[qI (by omega),rV hx]
      by_cases h:i=xn
      ·subst h;simp
      ·rw[if_neg h,hI.out i hi];have:((i:Int)==(xn:Int))=false:=by simp;omega
       rw[this];simp
     have hne:b'≠w.heap.size+1:=by omega
     generalize hs.getD xn false=old at *;clear hx hc hx0 hx1;go_wp2;go_roundw
     case rel=>exact⟨k+1,hs.set xn true,by omega,by go_num,by simpa using hl,HI2,KK2,KZ2,HB2⟩
     case measure=>simp[intOf];omega
    ·obtain rfl:k=more.length:=by omega
     have HH:Hid (hs=iV kvs more):=aAl hl (by have h:=hI.out;rw[List.take_length] at h;exact h);have hs17:=lJ (word:=word) (cls:=cls) (m:=.map (some b)) (code:=false) hl;have HSZ:Hid ((prog.info? 62).map (·.size)=some (aK word cls hs (.map (some b)) false).size):=by show _=_;rw[hs17];exact oJ
     have HONE:=Hd (mU (word:=word) (cls:=cls) (hs:=hs) (b:=some b) (code:=false));have HSZ2:Hid ((#[.string ⟨#[]⟩,.int .i64 0,.bool false,.bool false,.bool false,.bool false,.bool false,.bool false,.bool false,.bool false,.bool false,.bool false,.bool false,.bool false,.bool false,.map none,.bool false]:Array Value).size=(aK word cls hs (.map (some b)) false).size):=by show _=_;rw[hs17];rfl
     have HCS:Hid (Ending.returned (.agg (aK word cls hs (.map (some b)) false))=.returned (.agg (aK word cls (iV kvs more) (.map (some b)) false))):=by show _=_;rw[<-HH.out]
     clear HH;generalize aK word cls hs (.map (some b)) false=cs at *;go_wp2_with (first|(refine wpList_load_row rfl 62 _ rfl (w.heap.size+1) rfl 62 cs (0,0) _ KK.out.2 underlying62 rfl HSZ.out ?_)|(refine wpList_store_row rfl 62 _ _ rfl w.heap.size cs rfl rfl 62 _ KZ.out.2 HSZ.out HSZ2.out HONE.out ?_));refine bodyPost_ret (v:=.agg cs) (results_cell_row results87 _ _ w.heap.size 62 cs (0,0) _ rfl (setRow_heap _ _ _ _ _ _ KZ.out.2) underlying62 rfl HSZ.out) rfl ⟨HCS.out,?_⟩;exact below_setRow HB.out (Nl _) cs
  ·intro x c kl y1 y2 w1 cnt1 hkey hlk hR hat hrg1 hlt hg1 hs1 hen;obtain⟨x',ex,ekl,_⟩:=Maps.keyOf_int_inv underlying3 hkey;obtain rfl:x=x':=(Value.int.inj ex).2;subst ekl;obtain⟨v,hv⟩:=hL.out x hlk;obtain⟨hx0,hx1⟩:=HKV.out (x,v) hv;obtain⟨xn,rfl⟩:∃xn:Nat,x=xn:=⟨x.toNat,by dsimp only at hx0;omega⟩
   have hxn:xn<13:=by dsimp only at hx1;omega
   have KK1:=KK.out.kept hg1 (by omega);have KZ1:=Hd (KZ.out.kept hg1 (by omega));have c1:=(KK1.cell (2+xn)).trans (pA (by omega));have f1:=aR KK1.2 (2+xn);have KK2:=Hd (aY0 KK1 (show xn<hs.length by omega));have HB1:=Hd (HB.out.grown hg1 HB.out.size (fun k e=>by cases e;omega));have HANY:Hid (kvs.any (fun p=>p.1==(xn:Int))=true):=List.any_eq_true.2 ⟨_,hv,by simp⟩;have HRG:=Hd hrg1;have HLT:=Hd hlt;have hblt:=HOWN.out.lt;have HRG2:=Hd (HRG.out.kept (rF w1 (w.heap.size+1) (2+xn) (.bool true)) (by intro e;injection e with e;omega) (by intro e;injection e with e;omega));have KZ2:=Hd (KZ1.out.kept (rF w1 (w.heap.size+1) (2+xn) (.bool true)) (by omega));have HB2:=Hd (HB1.out.setCell (p:=⟨w.heap.size+1,2+xn,none⟩) (by show _<=w.heap.size+1;omega) (.bool true));have HI2:Hid (∀i:Nat,i<13->(hs.set xn true).getD i false=(kvs.any (fun p=>p.1==(i:Int)) && !(left (.int .i64 (i:Int)) && !(Lit.int .i64 (i:Int)).sameKey (.int .i64 (xn:Int))))):=by
    intro i hi;rw[qI (by omega)]
    by_cases h:i=xn
    ·subst h;rw[if_pos rfl,HANY.out,WideAt.sameKey_self (a:=Lit.int .i64 (i:Int)) trivial];simp
    ·rw[if_neg h,hI.out i hi,sameKey_ne (by intro e;exact h (by have:=(Lit.int.inj e).2;omega))];simp
   have HL2:Hid (∀k:Int,(left (.int .i64 k) && !(Lit.int .i64 k).sameKey (.int .i64 (xn:Int)))=true->∃v,(k,v)∈kvs):=by
    intro k hk;exact hL.out k (by simp at hk;exact hk.1)
   have HM:Hid (World.rangeLeft (w1.setCell ⟨w.heap.size+1,2+xn,none⟩ (.bool true)) b (w.heap.size+1+1)<wr.rangeLeft b (w.heap.size+1+1)):=by
    show _<_;rw[HRG2.out.left_eq,hrg.out.left_eq];exact HLT.out
   generalize hs.getD xn false=old at *;clear hkey ex hlk hR hat hrg1 hg1 hs1 hv hx0 hx1 KK1 hlt hblt;go_wp2;exact⟨⟨_,cnt1,hs.set xn true,HRG2,by simpa using hl,HI2,HL2,KK2,KZ2,HB2⟩,HM.out⟩
end
section
open Go Go.RowKit Go.Maps Go.MapKept Go.WideElems
theorem of_none(word:List UInt8)(cls:Int)(more:List Int)(ma:Option Addr)(mc:Nat)(w:World)(hml:more.length<=100)(hmo:∀x∈more,0<=x/\x<13)(hrow:dT w ma (more.map (Value.int .i64))):
  Calls prog 87 #[.string ⟨word.toArray⟩,.int .i64 cls,.map none,.slice ma more.length mc] w fun e w'=>e=.returned (.agg (aK word cls (iV [] more) (.map none) false))/\Below w.heap.size w w':=by
 have HMO:=Hd hmo;have HROW:=Hd hrow;clear hmo hrow;obtain⟨kvs,hkvs⟩:∃kvs:List (Int×Value),kvs=[]:=⟨_,rfl⟩
 rw[<-hkvs];have HKVS:=Hd hkvs;clear hkvs;have hrg:=fun W=>run_range_nilMap (P:=prog) W 60 3 112 underlying60
 have hnx:=fun ty=>run_next_nilMap (P:=prog) ((w.alloc (.cells #[.string ⟨#[]⟩,.int .i64 0,.bool false,.bool false,.bool false,.bool false,.bool false,.bool false,.bool false,.bool false,.bool false,.bool false,.bool false,.bool false,.bool false,.map none,.bool false] 62)).alloc (.cells #[.string ⟨word.toArray⟩,.int .i64 cls,.bool false,.bool false,.bool false,.bool false,.bool false,.bool false,.bool false,.bool false,.bool false,.bool false,.bool false,.bool false,.bool false,.map none,.bool false] 62)) ty 0 0 #[]
 simp only[World.size_alloc] at hnx;obtain⟨hs,hhs⟩:∃hs,hs=List.replicate 13 false:=⟨_,rfl⟩
 have hl:hs.length=13:=by rw[hhs];rfl
 have HI1:Hid (∀i:Nat,i<13->hs.getD i false=(kvs.any (fun p=>p.1==(i:Int)) || (more.take 0).contains (i:Int))):=by
  intro i hi;rw[HKVS.out,hhs,List.getD_eq_getElem?_getD,List.getElem?_replicate];simp[hi]
 have KK:Hid (aP (((w.alloc (.cells #[.string ⟨#[]⟩,.int .i64 0,.bool false,.bool false,.bool false,.bool false,.bool false,.bool false,.bool false,.bool false,.bool false,.bool false,.bool false,.bool false,.bool false,.map none,.bool false] 62)).alloc (.cells #[.string ⟨word.toArray⟩,.int .i64 cls,.bool false,.bool false,.bool false,.bool false,.bool false,.bool false,.bool false,.bool false,.bool false,.bool false,.bool false,.bool false,.bool false,.map none,.bool false] 62)).alloc (.mapIter none 0 #[] 0)) (w.heap.size+1) (aK word cls hs (.map none) false) 62):=by
  have h:=(aP.new0 (w.alloc (.cells #[.string ⟨#[]⟩,.int .i64 0,.bool false,.bool false,.bool false,.bool false,.bool false,.bool false,.bool false,.bool false,.bool false,.bool false,.bool false,.bool false,.bool false,.map none,.bool false] 62)) #[.string ⟨word.toArray⟩,.int .i64 cls,.bool false,.bool false,.bool false,.bool false,.bool false,.bool false,.bool false,.bool false,.bool false,.bool false,.bool false,.bool false,.bool false,.map none,.bool false] 62).below (aB _ (.mapIter none 0 #[] 0));rw[World.size_alloc] at h;rw[hhs];exact h
 have KZ:Hid (aP (((w.alloc (.cells #[.string ⟨#[]⟩,.int .i64 0,.bool false,.bool false,.bool false,.bool false,.bool false,.bool false,.bool false,.bool false,.bool false,.bool false,.bool false,.bool false,.bool false,.map none,.bool false] 62)).alloc (.cells #[.string ⟨word.toArray⟩,.int .i64 cls,.bool false,.bool false,.bool false,.bool false,.bool false,.bool false,.bool false,.bool false,.bool false,.bool false,.bool false,.bool false,.bool false,.map none,.bool false] 62)).alloc (.mapIter none 0 #[] 0)) w.heap.size #[.string ⟨#[]⟩,.int .i64 0,.bool false,.bool false,.bool false,.bool false,.bool false,.bool false,.bool false,.bool false,.bool false,.bool false,.bool false,.bool false,.bool false,.map none,.bool false] 62):=((aP.new0 w _ _).below (aB _ _)).below (aB _ _);have HB:Hid (Below w.heap.size w (((w.alloc (.cells #[.string ⟨#[]⟩,.int .i64 0,.bool false,.bool false,.bool false,.bool false,.bool false,.bool false,.bool false,.bool false,.bool false,.bool false,.bool false,.bool false,.bool false,.map none,.bool false] 62)).alloc (.cells #[.string ⟨word.toArray⟩,.int .i64 cls,.bool false,.bool false,.bool false,.bool false,.bool false,.bool false,.bool false,.bool false,.bool false,.bool false,.bool false,.bool false,.bool false,.map none,.bool false] 62)).alloc (.mapIter none 0 #[] 0))):=(((Br w.heap.size w).alloc (Nl _) _).alloc (by simp) _).alloc (by simp;omega) _;clear hhs;go_enter func87,ntmps87;go_wp2;refine wp_loop_once ?_;go_wp2_with fail;clear hrg hnx;go_loopw [28] (fun iv wr=>∃(k:Nat) (hs:List Bool),k<=more.length/\iv=.int .i64 (k:Int)/\hs.length=13/\Hid (∀i:Nat,i<13->hs.getD i false=(kvs.any (fun p=>p.1==(i:Int)) || (more.take k).contains (i:Int)))/\Hid (aP wr (w.heap.size+1) (aK word cls hs (.map none) false) 62)/\Hid (aP wr w.heap.size #[.string ⟨#[]⟩,.int .i64 0,.bool false,.bool false,.bool false,.bool false,.bool false,.bool false,.bool false,.bool false,.bool false,.bool false,.bool false,.bool false,.bool false,.map none,.bool false] 62)/\Hid (Below w.heap.size w wr)) (fun iv _=>more.length-(intOf iv).toNat)
 case atStart=>exact⟨0,hs,Nat.zero_le _,rfl,hl,HI1,KK,KZ,HB⟩
 case round =>
  clear HI1 KK KZ HB hl;obtain⟨k,hs,hk,rfl,hl,hI,KK,KZ,HB⟩:=hrel
  by_cases hlt:k<more.length
  ·obtain⟨x,hx⟩:∃x,more[k]?=some x:=⟨more[k],Lg hlt⟩
   obtain⟨b',off,ha,hb',hc⟩:=HROW.out.addr (by intro e;have:=congrArg List.length e;simp at this;rw[this] at hlt;simp at hlt);have cx:wr.cell? ⟨b',off+k,none⟩=some (.int .i64 x):=(HB.out.cell (p:=⟨b',off+k,none⟩) hb').trans (hc k _ (by simp[hx]));subst ha;obtain⟨hx0,hx1⟩:=HMO.out x (List.mem_of_getElem? hx);obtain⟨xn,rfl⟩:∃xn:Nat,x=xn:=⟨x.toNat,by omega⟩
   have hxn:xn<13:=by omega
   have c1:=(KK.out.cell (2+xn)).trans (pA (by omega));have f1:=aR KK.out.2 (2+xn);have KK2:=Hd (aY0 KK.out (show xn<hs.length by omega));have KZ2:=Hd (KZ.out.kept (rF wr (w.heap.size+1) (2+xn) (.bool true)) (by omega));have HB2:=Hd (HB.out.setCell (p:=⟨w.heap.size+1,2+xn,none⟩) (by show _<=w.heap.size+1;omega) (.bool true));have HI2:Hid (∀i:Nat,i<13->(hs.set xn true).getD i false=(kvs.any (fun p=>p.1==(i:Int)) || (more.take (k+1)).contains (i:Int))):=by
    intro i hi;rw[qI (by omega),rV hx]
    by_cases h:i=xn
    ·subst h;simp
    ·rw[if_neg h,hI.out i hi];have:((i:Int)==(xn:Int))=false:=by simp;omega
     rw[this];simp
   have hne:b'≠w.heap.size+1:=by omega
   generalize hs.getD xn false=old at *;clear hx hc hx0 hx1;go_wp2;go_roundw
   case rel=>exact⟨k+1,hs.set xn true,by omega,by go_num,by simpa using hl,HI2,KK2,KZ2,HB2⟩
   case measure=>simp[intOf];omega
  ·obtain rfl:k=more.length:=by omega
   have HH:Hid (hs=iV kvs more):=aAl hl (by have h:=hI.out;rw[List.take_length] at h;exact h);have hs17:=lJ (word:=word) (cls:=cls) (m:=.map none) (code:=false) hl;have HSZ:Hid ((prog.info? 62).map (·.size)=some (aK word cls hs (.map none) false).size):=by show _=_;rw[hs17];exact oJ
   have HONE:=Hd (mU (word:=word) (cls:=cls) (hs:=hs) (b:=none) (code:=false));have HSZ2:Hid ((#[.string ⟨#[]⟩,.int .i64 0,.bool false,.bool false,.bool false,.bool false,.bool false,.bool false,.bool false,.bool false,.bool false,.bool false,.bool false,.bool false,.bool false,.map none,.bool false]:Array Value).size=(aK word cls hs (.map none) false).size):=by show _=_;rw[hs17];rfl
   have HCS:Hid (Ending.returned (.agg (aK word cls hs (.map none) false))=.returned (.agg (aK word cls (iV kvs more) (.map none) false))):=by show _=_;rw[<-HH.out]
   clear HH;generalize aK word cls hs (.map none) false=cs at *;go_wp2_with (first|(refine wpList_load_row rfl 62 _ rfl (w.heap.size+1) rfl 62 cs (0,0) _ KK.out.2 underlying62 rfl HSZ.out ?_)|(refine wpList_store_row rfl 62 _ _ rfl w.heap.size cs rfl rfl 62 _ KZ.out.2 HSZ.out HSZ2.out HONE.out ?_));refine bodyPost_ret (v:=.agg cs) (results_cell_row results87 _ _ w.heap.size 62 cs (0,0) _ rfl (setRow_heap _ _ _ _ _ _ KZ.out.2) underlying62 rfl HSZ.out) rfl ⟨HCS.out,?_⟩;exact below_setRow HB.out (Nl _) cs
end
section
open Go Go.RowKit Go.Maps Go.MapKept Go.WideElems
inductive yA{β γ:Type}(R:β->γ->Prop):List β->List γ->Prop where
 |nil:yA R [] []
 |cons {x:β}{y:γ}{xs:List β}{ys:List γ}:R x y->yA R xs ys->yA R (x::xs) (y::ys)
theorem yA.imp{β γ:Type}{R S:β->γ->Prop}(hi:∀x y,R x y->S x y){xs:List β}{ys:List γ}(h:yA R xs ys):yA S xs ys:=by
 induction h with
 |nil=>exact .nil
 |cons hp _ ih=>exact .cons (hi _ _ hp) ih
theorem yA.append{β γ:Type}{R:β->γ->Prop}{xs xs':List β}{ys ys':List γ}(h:yA R xs ys)(h':yA R xs' ys'):yA R (xs++xs') (ys++ys'):=by
 induction h with
 |nil=>exact h'
 |cons hp _ ih=>exact .cons hp ih
theorem yA.right{β γ:Type}{R:β->γ->Prop}{xs:List β}{ys:List γ}(h:yA R xs ys){y:γ}(hy:y∈ys):∃x,x∈xs/\R x y:=by
 induction h with
 |nil=>cases hy
 |cons hp _ ih =>
  rcases List.mem_cons.1 hy with rfl|hm
  ·exact⟨_,by simp,hp⟩
  ·obtain⟨x,hx,hr⟩:=ih hm;exact⟨x,by simp[hx],hr⟩
theorem yA.left{β γ:Type}{R:β->γ->Prop}{xs:List β}{ys:List γ}(h:yA R xs ys){x:β}(hx:x∈xs):∃y,y∈ys/\R x y:=by
 induction h with
 |nil=>cases hx
 |cons hp _ ih =>
  rcases List.mem_cons.1 hx with rfl|hm
  ·exact⟨_,by simp,hp⟩
  ·obtain⟨y,hy,hr⟩:=ih hm;exact⟨y,by simp[hy],hr⟩
structure bH where
 word:List UInt8
 cls:Int
 nums:List (Int×Bool×Bool)
 more:List Int
 code:Bool
def bH.has(k:bH):List Bool:=(List.range 13).map fun (i:Nat)=>k.nums.any (fun p=>p.1==(i:Int)) || k.more.contains (i:Int)
def aX:List (Int×bH):=[(1,⟨[100,101,112,111,115,105,116],2,[(5,true,false)],[2],false⟩),(2,⟨[119,105,116,104,100,114,97,119],2,[(5,true,false)],[2],false⟩),(3,⟨[98,117,121],3,[(4,true,false),(5,false,false),(6,false,false)],[0],false⟩),(4,⟨[115,101,108,108],3,[(4,true,false),(5,false,false),(6,false,false)],[0,10],false⟩),(5,⟨[105,110,99,111,109,101],1,[(7,true,false)],[0],false⟩),(6,⟨[101,120,112,101,110,115,101],2,[(5,true,false)],[2],false⟩),(7,⟨[99,111,110,118,101,114,116],2,[(4,true,false),(5,true,false)],[1,2],true⟩),(8,⟨[115,112,108,105,116],1,[(7,false,false),(8,true,false)],[0],false⟩),(9,⟨[115,112,105,110,111,102,102],1,[(7,false,false),(8,true,false),(9,false,true)],[0,1],false⟩),(10,⟨[101,120,99,104,97,110,103,101],1,[],[0,11],false⟩),(11,⟨[101,108,101,99,116],4,[],[0,3,12],false⟩),(12,⟨[101,120,101,114,99,105,115,101],3,[(4,true,false),(7,false,false),(8,true,false)],[0,1],false⟩),(13,⟨[99,97,112,105,116,97,108],1,[(7,true,false)],[0],false⟩),(14,⟨[99,97,108,108],1,[(7,false,false)],[0],false⟩),(15,⟨[112,114,105,99,101],4,[(7,false,false)],[0],false⟩),(16,⟨[114,97,116,101],4,[(8,true,false)],[1,2],true⟩),(17,⟨[105,115,115,117,101],2,[(5,true,false)],[2],false⟩),(18,⟨[99,97,110,99,101,108],2,[(5,true,false)],[2],false⟩)]
def uJ(w:World)(b0:Nat)(v:Value)(pq:Bool×Bool):Prop:=∃bp bq,v=.func (.func 139) #[] #[.pointer (some ⟨bp,0,none⟩),.pointer (some ⟨bq,0,none⟩)]/\aP w bp #[.bool pq.1] 4/\aP w bq #[.bool pq.2] 4/\bp≠b0/\bq≠b0
def Wg(w:World)(b0:Nat)(kvs:List (Int×Value))(nums:List (Int×Bool×Bool)):Prop:=yA (fun (p:Int×Value) (q:Int×Bool×Bool)=>p.1=q.1/\uJ w b0 p.2 q.2) kvs nums
def sV(w:World)(b0:Nat)(mv:Option Nat)(nums:List (Int×Bool×Bool)):Prop:=(mv=none/\nums=[])∨∃b kvs,mv=some b/\b≠b0/\eL w b kvs/\Wg w b0 kvs nums
def sW(w:World)(b0:Nat)(v:Value)(k:bH):Prop:=∃mv,v=.agg (aK k.word k.cls k.has (.map mv) k.code)/\sV w b0 mv k.nums
theorem uJ.below{w w':World}{b0:Nat}{v:Value}{pq:Bool×Bool}(h:uJ w b0 v pq)(hb:Below w.heap.size w w'):uJ w' b0 v pq:=by
 obtain⟨bp,bq,e,h1,h2,h3,h4⟩:=h;exact⟨bp,bq,e,h1.below hb,h2.below hb,h3,h4⟩
theorem uJ.kept{w w':World}{b0:Nat}{v:Value}{pq:Bool×Bool}(h:uJ w b0 v pq)(hg:w.grownBy w' (some b0)):uJ w' b0 v pq:=by
 obtain⟨bp,bq,e,h1,h2,h3,h4⟩:=h;exact⟨bp,bq,e,h1.kept hg h3,h2.kept hg h4,h3,h4⟩
theorem Wg.mono{w w':World}{b0 b1:Nat}{kvs:List (Int×Value)}{nums:List (Int×Bool×Bool)}(h:Wg w b0 kvs nums)(hi:∀v pq,uJ w b0 v pq->uJ w' b1 v pq):Wg w' b1 kvs nums:=by
 unfold Wg at *
 induction h with
 |nil=>exact .nil
 |cons hp _ ih=>exact .cons ⟨hp.1,hi _ _ hp.2⟩ ih
theorem sV.below{w w':World}{b0:Nat}{mv:Option Nat}{nums:List (Int×Bool×Bool)}(h:sV w b0 mv nums)(hb:Below w.heap.size w w'):sV w' b0 mv nums:=by
 rcases h with h|⟨b,kvs,e,hne,ha,hl⟩
 ·exact .inl h
 ·exact .inr ⟨b,kvs,e,hne,ha.below hb,hl.mono fun v pq h=>h.below hb⟩
theorem sV.kept{w w':World}{b0:Nat}{mv:Option Nat}{nums:List (Int×Bool×Bool)}(h:sV w b0 mv nums)(hg:w.grownBy w' (some b0)):sV w' b0 mv nums:=by
 rcases h with h|⟨b,kvs,e,hne,ha,hl⟩
 ·exact .inl h
 ·exact .inr ⟨b,kvs,e,hne,ha.kept hg hne,hl.mono fun v pq h=>h.kept hg⟩
theorem sW.below{w w':World}{b0:Nat}{v:Value}{k:bH}(h:sW w b0 v k)(hb:Below w.heap.size w w'):sW w' b0 v k:=by
 obtain⟨mv,e,h⟩:=h;exact⟨mv,e,h.below hb⟩
theorem sW.kept{w w':World}{b0:Nat}{v:Value}{k:bH}(h:sW w b0 v k)(hg:w.grownBy w' (some b0)):sW w' b0 v k:=by
 obtain⟨mv,e,h⟩:=h;exact⟨mv,e,h.kept hg⟩
def Be(w:World)(b0:Nat)(ks:List (Int×bH)):Prop:=∃kvs:List (Int×Value),eL w b0 kvs/\yA (fun (p:Int×Value) (q:Int×bH)=>p.1=q.1/\sW w b0 p.2 q.2) kvs ks
theorem Be.below{w w':World}{b0:Nat}{ks:List (Int×bH)}(h:Be w b0 ks)(hb:Below w.heap.size w w'):Be w' b0 ks:=by
 obtain⟨kvs,ha,h⟩:=h;exact⟨kvs,ha.below hb,h.imp fun _ _ hp=>⟨hp.1,hp.2.below hb⟩⟩
theorem Be.new(w:World):Be (w.alloc (.map #[] 0)) w.heap.size []:=⟨[],eL.new w,.nil⟩
theorem Be.lt{w:World}{b0:Nat}{ks:List (Int×bH)}(h:Be w b0 ks):b0<w.heap.size:=by
 obtain⟨kvs,ha,_⟩:=h;exact ha.lt
end
section
open Go Go.RowKit
theorem uH(p q:Bool)(w:World):
  Calls prog 86 #[.bool p,.bool q] w fun e w'=>e=.returned (.func (.func 139) #[] #[.pointer (some ⟨w.heap.size,0,none⟩),.pointer (some ⟨w.heap.size+1,0,none⟩)])/\(w.alloc (.cells #[.bool p] 4)).alloc (.cells #[.bool q] 4)=w':=by
 go_enter func86,ntmps86;go_wp2;go_ret;exact⟨rfl,rfl⟩
end
section
open Go
inductive Df where
 |fOf
 |fWc
 |fAmt
 |trade
 |lim (p q:Bool)
 |row (l:List Int)
 |kind (k:bH)
 |same (m j:Nat)
 |osame (m:Nat)
 |ins (j:Nat) (n:Int)
 |oins (n:Int)
 |mk (j:Nat)
 |omk
def jH(j:Nat):List (Int×Bool×Bool):=[[(7,true,false)],[(4,true,false),(5,true,false)],[(7,false,false),(8,true,false)],[(7,false,false),(8,true,false),(9,false,true)],[(4,true,false),(7,false,false),(8,true,false)],[(7,true,false)],[(7,false,false)],[(7,false,false)],[(8,true,false)]].getD j []
def dK:List (Nat×Df):=[(15,.omk),(16,.fAmt),(17,.kind ⟨[100,101,112,111,115,105,116],2,[(5,true,false)],[2],false⟩),(1003,.oins 1),(18,.fAmt),(19,.kind ⟨[119,105,116,104,100,114,97,119],2,[(5,true,false)],[2],false⟩),(1006,.oins 2),(20,.fOf),(21,.trade),(22,.row [0]),(23,.kind ⟨[98,117,121],3,[(4,true,false),(5,false,false),(6,false,false)],[0],false⟩),(1011,.oins 3),(24,.fOf),(25,.trade),(26,.row [0,10]),(27,.kind ⟨[115,101,108,108],3,[(4,true,false),(5,false,false),(6,false,false)],[0,10],false⟩),(1016,.oins 4),(28,.fOf),(29,.mk 0),(30,.lim true false),(1020,.ins 0 7),(31,.same 29 0),(32,.row [0]),(33,.kind ⟨[105,110,99,111,109,101],1,[(7,true,false)],[0],false⟩),(1024,.oins 5),(34,.fAmt),(35,.kind ⟨[101,120,112,101,110,115,101],2,[(5,true,false)],[2],false⟩),(1027,.oins 6),(36,.fWc),(37,.fOf),(38,.mk 1),(39,.lim true false),(1032,.ins 1 4),(40,.lim true false),(1034,.ins 1 5),(41,.same 38 1),(42,.row [1,2]),(43,.kind ⟨[99,111,110,118,101,114,116],2,[(4,true,false),(5,true,false)],[1,2],false⟩),(44,.kind ⟨[99,111,110,118,101,114,116],2,[(4,true,false),(5,true,false)],[1,2],true⟩),(1039,.oins 7),(45,.fOf),(46,.mk 2),(47,.lim false false),(1043,.ins 2 7),(48,.lim true false),(1045,.ins 2 8),(49,.same 46 2),(50,.row [0]),(51,.kind ⟨[115,112,108,105,116],1,[(7,false,false),(8,true,false)],[0],false⟩),(1049,.oins 8),(52,.fOf),(53,.mk 3),(54,.lim false false),(1053,.ins 3 7),(55,.lim true false),(1055,.ins 3 8),(56,.lim false true),(1057,.ins 3 9),(57,.same 53 3),(58,.row [0,1]),(59,.kind ⟨[115,112,105,110,111,102,102],1,[(7,false,false),(8,true,false),(9,false,true)],[0,1],false⟩),(1061,.oins 9),(60,.fOf),(61,.row [0,11]),(62,.kind ⟨[101,120,99,104,97,110,103,101],1,[],[0,11],false⟩),(1065,.oins 10),(63,.fOf),(64,.row [0,3,12]),(65,.kind ⟨[101,108,101,99,116],4,[],[0,3,12],false⟩),(1069,.oins 11),(66,.fOf),(67,.mk 4),(68,.lim true false),(1073,.ins 4 4),(69,.lim false false),(1075,.ins 4 7),(70,.lim true false),(1077,.ins 4 8),(71,.same 67 4),(72,.row [0,1]),(73,.kind ⟨[101,120,101,114,99,105,115,101],3,[(4,true,false),(7,false,false),(8,true,false)],[0,1],false⟩),(1081,.oins 12),(74,.fOf),(75,.mk 5),(76,.lim true false),(1085,.ins 5 7),(77,.same 75 5),(78,.row [0]),(79,.kind ⟨[99,97,112,105,116,97,108],1,[(7,true,false)],[0],false⟩),(1089,.oins 13),(80,.fOf),(81,.mk 6),(82,.lim false false),(1093,.ins 6 7),(83,.same 81 6),(84,.row [0]),(85,.kind ⟨[99,97,108,108],1,[(7,false,false)],[0],false⟩),(1097,.oins 14),(86,.fOf),(87,.mk 7),(88,.lim false false),(1101,.ins 7 7),(89,.same 87 7),(90,.row [0]),(91,.kind ⟨[112,114,105,99,101],4,[(7,false,false)],[0],false⟩),(1105,.oins 15),(92,.fWc),(93,.fOf),(94,.mk 8),(95,.lim true false),(1110,.ins 8 8),(96,.same 94 8),(97,.row [1,2]),(98,.kind ⟨[114,97,116,101],4,[(8,true,false)],[1,2],false⟩),(99,.kind ⟨[114,97,116,101],4,[(8,true,false)],[1,2],true⟩),(1115,.oins 16),(100,.fAmt),(101,.kind ⟨[105,115,115,117,101],2,[(5,true,false)],[2],false⟩),(1118,.oins 17),(102,.fAmt),(103,.kind ⟨[99,97,110,99,101,108],2,[(5,true,false)],[2],false⟩),(1121,.oins 18),(104,.osame 15),(0,.osame 15)]
def zO:List Nat:=[18,30,41,51,71,83,91,99,108]
def bWt:List ((Nat×Int)×Nat):=[((0,7),20),((1,4),32),((1,5),34),((2,7),43),((2,8),45),((3,7),53),((3,8),55),((3,9),57),((4,4),73),((4,7),75),((4,8),77),((5,7),85),((6,7),93),((7,7),101),((8,8),110)]
def tR:List (Int×Nat):=[(1,3),(2,6),(3,11),(4,16),(5,24),(6,27),(7,39),(8,49),(9,61),(10,65),(11,69),(12,81),(13,89),(14,97),(15,105),(16,115),(17,118),(18,121)]
def Df.home:Df->Option Nat
 | .mk j=>some (zO.getD j 0)
 | .omk=>some 0
 | .ins j n=>some (((bWt.find? fun p=>p.1.1==j&&p.1.2==n).map Prod.snd).getD 0)
 | .oins n=>some (((tR.find? fun p=>p.1==n).map Prod.snd).getD 0)
 |_=>none
theorem oK:dK.length=124:=by decide +kernel
theorem Lf:(dK.map Prod.fst).Nodup:=by decide +kernel
theorem Qt:∀i,i<124->((dK[i]?).map fun p=>p.2.home.all (· == i)).getD true=true:=by decide +kernel
theorem Ui:∀i,i<124->((dK[i]?).map fun p=>decide (p.1=0∨7<=p.1)).getD true=true:=by decide +kernel
end
section
open Go Go.RowKit Go.Maps Go.MapKept Go.WideElems
theorem Ef(W:World)(g:Nat)(cs:Array Value):W.grownBy (W.setRow g cs) (some g):=by
 refine⟨rfl,rfl,rfl,by simp[World.setRow],fun i _ hne=>setRow_other W g i cs ?_⟩;intro e;exact hne (by rw[e])
theorem Hh{word:List UInt8}{cls:Int}{hs:List Bool}{m:Value}(h:hs.length=13):(aK word cls hs m false).setIfInBounds 16 (.bool true)=aK word cls hs m true:=by
 unfold aK;rw[List.setIfInBounds_toArray,List.set_append_right _ _ (by simp[h])];simp[h]
theorem Mi(word:List UInt8)(bo bp:Nat)(T1 T2:TypeId)(p q:Option Addr)(w:World)(h1:aP w bo #[.func (.func 87) #[] #[]] T1)(h2:aP w bp #[.func (.func 139) #[] #[.pointer p,.pointer q]] T2):
  Calls prog 88 #[.string ⟨word.toArray⟩,.pointer (some ⟨bo,0,none⟩),.pointer (some ⟨bp,0,none⟩)] w fun e w'=>∃b,e=.returned (.agg (aK word 2 (iV [(5,.func (.func 139) #[] #[.pointer p,.pointer q])] [2]) (.map (some b)) false))/\mD w' b [(5,.func (.func 139) #[] #[.pointer p,.pointer q])]/\w.heap.size<=b/\Below w.heap.size w w':=by
 have H1:=Hd h1;have H2:=Hd h2;have k1:=h1.cell 0;have k2:=h2.cell 0;have l1:=h1.1;have l2:=h2.1;clear h1 h2;have hmm:=@run_makeMap prog;go_enter func88,ntmps88;go_wp2_with (refine lB rfl _ rfl _ _ _ 60 112 rfl underlying60 (w.heap.size+1) [] rfl ?hr (by decide) 5 rfl ⟨by decide,by decide⟩ (by simp) ?_)
 case hr =>
  have h:=mD.new (w.alloc (.cells #[.string ⟨#[]⟩,.int .i64 0,.bool false,.bool false,.bool false,.bool false,.bool false,.bool false,.bool false,.bool false,.bool false,.bool false,.bool false,.bool false,.bool false,.map none,.bool false] 62));rw[World.size_alloc] at h;exact h
 intro w1 hR1 hg1 hs1;have KZ1:=Hd (((aP.new0 w #[.string ⟨#[]⟩,.int .i64 0,.bool false,.bool false,.bool false,.bool false,.bool false,.bool false,.bool false,.bool false,.bool false,.bool false,.bool false,.bool false,.bool false,.map none,.bool false] 62).below (aB _ (.map #[] 0))).kept hg1 (by omega));have HB1:Hid (Below w.heap.size w w1):=(((Br w.heap.size w).alloc (Nl _) _).alloc (by simp) _).grown hg1 (by simp;omega) (fun k e=>by cases e;omega);have HR1:=Hd hR1;have HOF:=Hd (fun B W (hR:mD W (w.heap.size+1) [(5,.func (.func 139) #[] #[.pointer p,.pointer q])]) hrow=>Do word 2 (w.heap.size+1) [(5,.func (.func 139) #[] #[.pointer p,.pointer q])] [2] (some ⟨B,0,none⟩) 1 W hR (by simp) (by decide) (by simp) hrow);have hl13:(iV [(5,Value.func (.func 139) #[] #[.pointer p,.pointer q])] [2]).length=13:=by simp[iV]
 have hs17:=lJ (word:=word) (cls:=2) (m:=.map (some (w.heap.size+1))) (code:=false) hl13;have HSZ:Hid ((prog.info? 62).map (·.size)=some (aK word 2 (iV [(5,.func (.func 139) #[] #[.pointer p,.pointer q])] [2]) (.map (some (w.heap.size+1))) false).size):=by show _=_;rw[hs17];exact oJ
 have HONE:=Hd (mU (word:=word) (cls:=2) (hs:=iV [(5,.func (.func 139) #[] #[.pointer p,.pointer q])] [2]) (b:=some (w.heap.size+1)) (code:=false));have HSZ2:Hid ((#[.string ⟨#[]⟩,.int .i64 0,.bool false,.bool false,.bool false,.bool false,.bool false,.bool false,.bool false,.bool false,.bool false,.bool false,.bool false,.bool false,.bool false,.map none,.bool false]:Array Value).size=(aK word 2 (iV [(5,.func (.func 139) #[] #[.pointer p,.pointer q])] [2]) (.map (some (w.heap.size+1))) false).size):=by show _=_;rw[hs17];rfl
 have HCS:Hid (Ending.returned (.agg (aK word 2 (iV [(5,.func (.func 139) #[] #[.pointer p,.pointer q])] [2]) (.map (some (w.heap.size+1))) false))=Ending.returned (.agg (aK word 2 (iV [(5,.func (.func 139) #[] #[.pointer p,.pointer q])] [2]) (.map (some (w.heap.size+1))) false))):=rfl;clear hR1 hg1 hmm hl13 hs17;have HSW:=Hd hs1;go_wp2_with fail;refine(HOF.out _ _ (HR1.out.below (aB _ _)) ?_).mono ?_
 ·have h:=eC (p:=[Value.int .i64 2]) (q:=[]) (heap_alloc_new w1 (.cells #[.int .i64 2] 3));rw[HSW.out] at h;exact h
 rintro e w2 ⟨rfl,hb2⟩;have KZ2:=Hd ((KZ1.out.below (aB _ _)).below hb2);have HB2:=Hd (aA (aA HB1.out (aB _ _)) hb2);have HR2:=Hd ((HR1.out.below (aB _ _)).below hb2);clear hb2;generalize hcs:aK word 2 (iV [(5,.func (.func 139) #[] #[.pointer p,.pointer q])] [2]) (.map (some (w.heap.size+1))) false=cs at *;have HCSE:=Hd hcs;clear hcs;go_wp2_with (refine wpList_store_row rfl 62 _ _ rfl w.heap.size cs rfl rfl 62 _ KZ2.out.2 HSZ.out HSZ2.out HONE.out ?_);refine bodyPost_ret (v:=.agg cs) (results_cell_row results88 _ _ w.heap.size 62 cs (0,0) _ rfl (setRow_heap _ _ _ _ _ _ KZ2.out.2) underlying62 rfl HSZ.out) rfl ⟨w.heap.size+1,by rw[HCSE.out],?_,by omega,?_⟩
 ·exact HR2.out.kept (Ef w2 w.heap.size cs) (by omega)
 ·exact below_setRow HB2.out (Nl _) cs
theorem Dg(word:List UInt8)(cls:Int)(hs:List Bool)(b:Option Nat)(hl:hs.length=13)(w:World):
  Calls prog 89 #[.agg (aK word cls hs (.map b) false)] w fun e w'=>e=.returned (.agg (aK word cls hs (.map b) true))/\Below w.heap.size w w':=by
 have hs17:=lJ (word:=word) (cls:=cls) (m:=.map b) (code:=true) hl;have hsf:=lJ (word:=word) (cls:=cls) (m:=.map b) (code:=false) hl;have HSZ:Hid ((prog.info? 62).map (·.size)=some (aK word cls hs (.map b) true).size):=by show _=_;rw[hs17];exact oJ
 have HONE:=Hd (mU (word:=word) (cls:=cls) (hs:=hs) (b:=b) (code:=true));have HSZ2:Hid ((#[.string ⟨#[]⟩,.int .i64 0,.bool false,.bool false,.bool false,.bool false,.bool false,.bool false,.bool false,.bool false,.bool false,.bool false,.bool false,.bool false,.bool false,.map none,.bool false]:Array Value).size=(aK word cls hs (.map b) true).size):=by show _=_;rw[hs17];rfl
 have HCODE:=Hd (Hh (word:=word) (cls:=cls) (hs:=hs) (m:=.map b) hl);have KB:=Hd ((aP.new0 w (aK word cls hs (.map b) false) 62).below (aB _ (.cells #[.string ⟨#[]⟩,.int .i64 0,.bool false,.bool false,.bool false,.bool false,.bool false,.bool false,.bool false,.bool false,.bool false,.bool false,.bool false,.bool false,.bool false,.map none,.bool false] 62)));have KB2:=Hd ((aP.new0 w ((aK word cls hs (.map b) false).setIfInBounds 16 (.bool true)) 62).below (aB _ (.cells #[.string ⟨#[]⟩,.int .i64 0,.bool false,.bool false,.bool false,.bool false,.bool false,.bool false,.bool false,.bool false,.bool false,.bool false,.bool false,.bool false,.bool false,.map none,.bool false] 62)));have KZ:=aP.new0 (w.alloc (.cells ((aK word cls hs (.map b) false).setIfInBounds 16 (.bool true)) 62)) #[.string ⟨#[]⟩,.int .i64 0,.bool false,.bool false,.bool false,.bool false,.bool false,.bool false,.bool false,.bool false,.bool false,.bool false,.bool false,.bool false,.bool false,.map none,.bool false] 62;rw[World.size_alloc] at KZ;have KZ:=Hd KZ;have k16:((w.alloc (.cells (aK word cls hs (.map b) false) 62)).alloc (.cells #[.string ⟨#[]⟩,.int .i64 0,.bool false,.bool false,.bool false,.bool false,.bool false,.bool false,.bool false,.bool false,.bool false,.bool false,.bool false,.bool false,.bool false,.map none,.bool false] 62)).cell? ⟨w.heap.size,16,none⟩=some (.bool false):=by
  rw[KB.out.cell 16];unfold aK;rw[List.getElem?_toArray,List.getElem?_append_right (by simp[hl])];simp[hl]
 have f16:=aR KB.out.2 16;have HB:=Hd (((Br w.heap.size w).alloc (Nl _) (.cells ((aK word cls hs (.map b) false).setIfInBounds 16 (.bool true)) 62)).alloc (by simp) (.cells #[.string ⟨#[]⟩,.int .i64 0,.bool false,.bool false,.bool false,.bool false,.bool false,.bool false,.bool false,.bool false,.bool false,.bool false,.bool false,.bool false,.bool false,.map none,.bool false] 62));rw[<-HCODE.out] at HSZ HSZ2 HONE;have HCODE':Hid (Ending.returned (.agg ((aK word cls hs (.map b) false).setIfInBounds 16 (.bool true)))=.returned (.agg (aK word cls hs (.map b) true))):=by show _=_;rw[HCODE.out]
 clear HCODE;generalize hcs:(aK word cls hs (.map b) false).setIfInBounds 16 (.bool true)=cs at HSZ HSZ2 HONE KB2 KZ HB HCODE';have HCS:=Hd hcs;clear hcs KB;go_enter func89,ntmps89;go_wp2_with (first|(rw[HCS.out];refine wpList_load_row rfl 62 _ rfl w.heap.size rfl 62 cs (0,0) _ KB2.out.2 underlying62 rfl HSZ.out ?_)|(refine wpList_store_row rfl 62 _ _ rfl (w.heap.size+1) cs rfl rfl 62 _ KZ.out.2 HSZ.out HSZ2.out HONE.out ?_));refine bodyPost_ret (v:=.agg cs) (results_cell_row results89 _ _ (w.heap.size+1) 62 cs (0,0) _ rfl (setRow_heap _ _ _ _ _ _ KZ.out.2) underlying62 rfl HSZ.out) rfl ⟨HCODE'.out,?_⟩;exact below_setRow HB.out (by omega) cs
end
section
open Go Go.RowKit Go.Maps Go.MapKept Go.WideElems
def fA(l:List UInt8):Int:=if dC l=true then 0 else 23
def gM(f:aE)(code:Bool):Int :=
 if code=true then(if fV f.other=true then(if(f.other==f.cur)=true then 18 else 0) else 12)
 else if dC f.other=true then(if(f.other==f.ins)=true then 18 else 0) else 23
def bT(f:aE)(k:bH)(i:Nat):Int :=
 if i=0 then fA f.ins else if i=1 then gM f k.code else if i=2 then(if fV f.cur=true then 0 else 12) else if i=3 then fA f.target
 else if i=10 then jF f else if i=11 then iP f else if i=12 then(if f.choice<0 then 2 else 0)
 else match k.nums.find? (fun p=>p.1==(i:Int)) with
  |some p=>lim p.2.1 p.2.2 (f.num i).n (f.num i).d
  |none=>0
def bX(f:aE)(k:bH)(i:Nat):Int:=if k.has.getD i false=true then bT f k i else if f.zero i=true then 0 else 1
def bS(f:aE)(k:bH):List Nat->Int
 | []=>0
 |i::r=>if bX f k i≠0 then bX f k i else bS f k r
def aE.blank(f:aE):Bool :=
 decide (f.day=0)&&decide (f.kind=0)&&f.ins.isEmpty&&f.other.isEmpty&&f.cur.isEmpty&&f.target.isEmpty&&f.q.isEmpty&&f.amt.isEmpty&&f.fee.isEmpty&&f.price.none&&f.ratio.none&&f.share.none&&decide (f.picks.length=0)&&decide (f.options.length=0)&&decide (f.choice=0)
def bY(f:aE):Int :=
 if dC f.key=false then 23 else if f.stamp<0 then 2
 else if f.cancelled=true then(if f.blank=true then 0 else 1)
 else if f.day < -25567∨84005<f.day then 13
 else match aX.find? (fun p=>p.1==f.kind) with
  |some p=>bS f p.2 (List.range 13)
  |none=>7
end
section
open Go Go.RowKit Num
theorem bM(l:List UInt8)(w:World):
  Calls prog 83 #[.string ⟨l.toArray⟩] w fun e w'=>e=.returned (.bool (decide (13<l.length)))/\w=w':=by
 have hd:decide (13<l.length)=decide ((13:Int)<(l.length:Int)):=by rw[decide_eq_decide];omega
 rw[hd];go_enter func83,ntmps83;go_wp2;go_ret;exact⟨rfl,rfl⟩
theorem Ky(n d:List UInt8)(b c:Nat)(w:World)(h0:w.cell? ⟨b,0,none⟩=some (.string ⟨n.toArray⟩))(h1:w.cell? ⟨b,1,none⟩=some (.string ⟨d.toArray⟩)):
  Calls prog 136 #[.slice (some ⟨b,0,none⟩) 1 c] w fun e w'=>e=.returned (.bool (decide (13<n.length) || decide (13<d.length)))/\Below w.heap.size w w':=by
 have hd:decide (13<n.length)=decide ((13:Int)<(n.length:Int)):=by rw[decide_eq_decide];omega
 have hd':decide (13<d.length)=decide ((13:Int)<(d.length:Int)):=by rw[decide_eq_decide];omega
 rw[hd,hd'];clear hd hd';cases hn:decide ((13:Int)<(n.length:Int)) <;> cases hm:decide ((13:Int)<(d.length:Int))
 all_goals
  go_enter func136,ntmps136;go_wp2_with fail;go_loopw [3] (fun iv wr=>w=wr/\(iv=.int .i64 0∨(iv=.int .i64 1/\(decide ((13:Int)<(n.length:Int)) || decide ((13:Int)<(d.length:Int)))=false))) (fun iv _=>1-(intOf iv).toNat)
  case atStart=>exact⟨rfl,.inl rfl⟩
  case round =>
   obtain⟨rfl,rfl|⟨rfl,hb⟩⟩:=hrel
   ·go_wp2
    first
     |(go_ret;exact⟨rfl,Br _ _⟩)
     |exact⟨⟨trivial,.inr ⟨rfl,by rw[hn,hm];rfl⟩⟩,by simp[intOf]⟩
   ·first
     |(rw[hn,hm] at hb;simp at hb;done)
     |(go_wp2;go_ret;exact⟨rfl,Br _ _⟩)
theorem bR(f:bZ)(w:World):
  Calls prog 84 #[f.agg] w fun e w'=>e=.returned (.bool (decide (13<f.n.length) || decide (13<f.d.length)))/\Below w.heap.size w w':=by
 unfold bZ.agg;obtain⟨n,d⟩:=f;dsimp only;have KX:=(aP.new0 w #[.string ⟨n.toArray⟩,.string ⟨d.toArray⟩] 25)
 have k0:=KX.cell 0;have k1:=KX.cell 1;have HL:=Hd (fun b c W h0 h1=>Ky n d b c W h0 h1);generalize(decide (13<n.length) || decide (13<d.length))=r at *;clear KX;go_enter func84,ntmps84;go_wp2_with fail;have KY:=aP.new0 (w.alloc (.cells #[.string ⟨n.toArray⟩,.string ⟨d.toArray⟩] 25)) #[.string ⟨n.toArray⟩,.string ⟨d.toArray⟩] 25;rw[World.size_alloc] at KY;refine(HL.out _ _ _ (KY.cell 0) (KY.cell 1)).mono ?_;rintro e w1 ⟨rfl,hb⟩;go_wp2;go_ret;exact⟨rfl,aA (((Br w.heap.size w).alloc (Nl _) _).alloc (by simp) _) hb⟩
end
section
open Go Go.RowKit Num
def Ax(key:List UInt8)(stamp:Int)(c:Bool):Array Value:=#[.string ⟨key.toArray⟩,.int .i64 stamp,.bool c,.int .i64 0,.int .i64 0,.string ⟨#[]⟩,.string ⟨#[]⟩,.string ⟨#[]⟩,.string ⟨#[]⟩,.string ⟨#[]⟩,.string ⟨#[]⟩,.string ⟨#[]⟩,.string ⟨#[]⟩,.string ⟨#[]⟩,.string ⟨#[]⟩,.string ⟨#[]⟩,.string ⟨#[]⟩,.string ⟨#[]⟩,.slice none 0 0,.slice none 0 0,.int .i64 0]
theorem Ih(a:Option Addr)(n c:Nat)(r:Bool)(hr:r=decide (n=0))(w:World):
  Calls prog 53 #[.slice a n c,.slice none 0 0] w fun e w'=>e=.returned (.bool r)/\Below w.heap.size w w':=by
 subst hr;cases n with
 |zero =>
  go_enter func53,ntmps53;go_wp2;refine wp_loop_once ?_;go_wp2;go_ret;exact⟨rfl,Br _ _⟩
 |succ n =>
  have hn:((n:Int)+1==0)=false:=by simp;omega
  go_enter func53,ntmps53;go_wp2;go_ret;exact⟨rfl,Br _ _⟩
theorem Bs(a:Option Addr)(n c:Nat)(r:Bool)(hr:r=decide (n=0))(w:World):
  Calls prog 54 #[.slice a n c,.slice none 0 0] w fun e w'=>e=.returned (.bool r)/\Below w.heap.size w w':=by
 subst hr;cases n with
 |zero =>
  go_enter func54,ntmps54;go_wp2;refine wp_loop_once ?_;go_wp2;go_ret;exact⟨rfl,Br _ _⟩
 |succ n =>
  have hn:((n:Int)+1==0)=false:=by simp;omega
  go_enter func54,ntmps54;go_wp2;go_ret;exact⟨rfl,Br _ _⟩
end
end Go.Proofs.YthjekgfoidmagaaGreatDoor
