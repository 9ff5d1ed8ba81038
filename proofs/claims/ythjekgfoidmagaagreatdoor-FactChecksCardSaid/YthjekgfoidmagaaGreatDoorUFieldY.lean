/- FieldC13 FieldD13 -/
import Derived.Test.YthjekgfoidmagaaGreatDoorUFieldX
set_option maxHeartbeats 16000000
set_option maxRecDepth 100000
namespace Go.Proofs.YthjekgfoidmagaaGreatDoor
open Go.Proofs.Tryz
section
open Go Go.RowKit Num
theorem bIf{α β:Type}{f:α->Option β}{g:α->β}{b:α->Bool}:∀ {l:List α},(∀x,x∈l->f x=if b x=true then none else some (g x))->bGm f l=if l.any b=true then none else some (l.map g)
 | [],_=>rfl
 |x::r,h=>by
  unfold bGm;rw[h x List.mem_cons_self]
  by_cases hb:b x=true
  ·rw[if_pos hb,Option.bind_none,if_pos (by simp[hb])]
  ·rw[if_neg hb,Option.bind_some,bIf fun y hy=>h y (List.mem_cons_of_mem _ hy)];have hb':b x=false:=by simpa using hb
   by_cases hr:r.any b=true
   ·rw[if_pos hr,if_pos (by simp only[List.any_cons,hr,Bool.or_true])];rfl
   ·rw[if_neg hr,if_neg (by simp only[List.any_cons,hb',Bool.false_or];exact hr)];rfl
theorem bIg{α β:Type}{f:α->Option β}:∀ {l:List α}{x:α},x∈l->f x=none->bGm f l=none
 |y::r,x,h,hx=>by
  unfold bGm;rcases List.mem_cons.1 h with rfl|h
  ·rw[hx];rfl
  ·rw[bIg h hx];cases f y <;> rfl
def bE6(l:List (List UInt8)):bJ:=⟨l.getD 0 [],(bDv (l.getD 1 [])).getD []⟩
def bEz(l:List (List UInt8)):Bool:=(l.getD 0 []).isEmpty || (bDv (l.getD 1 [])).isNone
theorem bKy{l:List (List UInt8)}(h:l.length=2):bEx l=if bEz l=true then none else some (bE6 l):=by
 match l,h with
 | [a,b],_ =>
  unfold bEx bEz bE6;simp only[List.getD_cons_zero,List.getD_cons_succ];cases a with
  |nil=>rfl
  |cons x t =>
   cases hb:bDv b with
   |none=>rfl
   |some q=>rfl
theorem bKx{l:List (List UInt8)}(h:l.length≠2):bEx l=none:=by
 unfold bEx;split
 ·exact absurd rfl h
 ·rfl
theorem bGp{W:World}{n1 n2:Nat}{e e':TypeId}{s s' m m':Nat}{v v':Value}{xs xs':List Value}(h:W.ownsRow n1 e s v m xs)(g:W.ownsRow n2 e' s' v' m' xs')(hne:e≠e'){k:Nat}(hk:v.ownBlock=some k):v'.ownBlock≠some k:=by
 intro hk';rcases h.2 with⟨rfl,_⟩|⟨b,cap,cur,rfl,_,h2,_⟩
 ·simp[Value.ownBlock] at hk
 ·rcases g.2 with⟨rfl,_⟩|⟨b',cap',cur',rfl,_,h2',_⟩
  ·simp[Value.ownBlock] at hk'
  ·obtain rfl:b=k:=by simpa[Value.ownBlock] using hk
   obtain rfl:b'=b:=by simpa[Value.ownBlock] using hk'
   rw[h2] at h2';injection h2' with h2'
   injection h2' with _ h2' _
   exact hne h2'
section
variable {W W' W3 w5:World}{n1 br bf:Nat}{bad nb:Bool}{g:aE}{pv ov v':Value}
theorem FSt.not_box(h:FSt W n1 br bf bad g pv ov){b:Nat}{cs:Array Value}{T:TypeId}(hb:aP W b cs T)(h1:T≠96)(h2:T≠29)(h3:T≠83)(h4:T≠55):¬ Tch br bf pv ov b:=by
 rintro(e|e|e|e)
 ·exact bDt hb h.kr h1 e
 ·exact bDt hb h.kf h2 e
 ·exact bC0 hb h3 h.op e
 ·exact bC0 hb h4 h.oo e
theorem FSt.not_row(h:FSt W n1 br bf bad g pv ov){n2:Nat}{e:TypeId}{s m:Nat}{v:Value}{xs:List Value}(hr:W.ownsRow n2 e s v m xs)(h1:e≠96)(h2:e≠29)(h3:e≠83)(h4:e≠55):∀k,v.ownBlock=some k->¬ Tch br bf pv ov k:=by
 rintro k hk (rfl|rfl|q|q)
 ·exact bC0 h.kr (fun q=>h1 q.symm) hr hk
 ·exact bC0 h.kf (fun q=>h2 q.symm) hr hk
 ·exact bGp hr h.op h3 hk q
 ·exact bGp hr h.oo h4 hk q
theorem FSt.pick(h:FSt W n1 br bf bad g pv ov){x q:List UInt8}(A:bNd W br nb n1 83 2 pv g.picks.length (bEr g.picks) [.string ⟨x.toArray⟩,.string ⟨q.toArray⟩] v' W3 w5):
  FSt (w5.setCell ⟨bf,18,none⟩ v') n1 br bf nb { g with picks:=g.picks ++ [⟨x,q⟩] } v' ov/\aZf (Tch br bf pv ov) W (w5.setCell ⟨bf,18,none⟩ v')/\(∀k,v'.ownBlock=some k->pv.ownBlock=some k∨W.heap.size<=k):=by
 have h3:=(h.mark A.wr A.kb).below (aB W3 (.cells #[.string ⟨x.toArray⟩,.string ⟨q.toArray⟩] 83));have hg:aZf (fun k=>pv.ownBlock=some k) (W3.alloc (.cells #[.string ⟨x.toArray⟩,.string ⟨q.toArray⟩] 83)) w5:=aZf.grown A.gr (fun k h=>h);have kr5:=hg.box h3.kr (fun e=>bC0 h3.kr (by decide) h3.op e);have kf5:=hg.box h3.kf (fun e=>bC0 h3.kf (by decide) h3.op e);have oo5:=bDd h3.oo hg (fun k hk e=>bGp h3.oo h3.op (by decide) hk e);have hs:aZf (· = bf) w5 (w5.setCell ⟨bf,18,none⟩ v'):=aZf.set _ _ _ rfl;refine⟨⟨hs.box kr5 h.ne,bGb kf5,?_,bDd oo5 hs (fun k hk e=>bC0 kf5 (by decide) oo5 (by rw[hk,e]))⟩,?_,?_⟩
 ·have h1:=bDd A.own hs (fun k hk e=>bC0 kf5 (by decide) A.own (by rw[hk,e]));have e1:bEr (g.picks ++ [(⟨x,q⟩:bJ)])=bEr g.picks ++ [.string ⟨x.toArray⟩,.string ⟨q.toArray⟩]:=by simp[bEr,bJ.cells]
  show World.ownsRow _ _ _ _ _ (g.picks ++ [(⟨x,q⟩:bJ)]).length (bEr (g.picks ++ [(⟨x,q⟩:bJ)]));rw[e1,List.length_append];exact h1
 ·exact((((A.wr.weaken (fun k e=>.inl e)).then_below (aB W3 _)).trans (hg.weaken (fun k e=>.inr (.inr (.inl e))))).trans (hs.weaken (fun k e=>.inr (.inl e))))
 ·intro k hk;rcases A.ob with e|e
  ·exact .inl (by rw[<-e];exact hk)
  ·right;rw[e] at hk;injection hk with hk
   have:=A.wr.size;omega
theorem FSt.option(h:FSt W n1 br bf bad g pv ov){o:eJ}(A:bNd W br nb n1 55 7 ov g.options.length (bEk g.options) o.cells v' W3 w5):
  FSt (w5.setCell ⟨bf,19,none⟩ v') n1 br bf nb { g with options:=g.options ++ [o] } pv v'/\aZf (Tch br bf pv ov) W (w5.setCell ⟨bf,19,none⟩ v')/\(∀k,v'.ownBlock=some k->ov.ownBlock=some k∨W.heap.size<=k):=by
 have h3:=(h.mark A.wr A.kb).below (aB W3 (.cells o.cells.toArray 55));have hg:aZf (fun k=>ov.ownBlock=some k) (W3.alloc (.cells o.cells.toArray 55)) w5:=aZf.grown A.gr (fun k h=>h);have kr5:=hg.box h3.kr (fun e=>bC0 h3.kr (by decide) h3.oo e);have kf5:=hg.box h3.kf (fun e=>bC0 h3.kf (by decide) h3.oo e);have op5:=bDd h3.op hg (fun k hk e=>bGp h3.op h3.oo (by decide) hk e);have hs:aZf (· = bf) w5 (w5.setCell ⟨bf,19,none⟩ v'):=aZf.set _ _ _ rfl;refine⟨⟨hs.box kr5 h.ne,bGb kf5,bDd op5 hs (fun k hk e=>bC0 kf5 (by decide) op5 (by rw[hk,e])),?_⟩,?_,?_⟩
 ·have h1:=bDd A.own hs (fun k hk e=>bC0 kf5 (by decide) A.own (by rw[hk,e]));have e1:bEk (g.options ++ [o])=bEk g.options++o.cells:=by simp[bEk]
  show World.ownsRow _ _ _ _ _ (g.options ++ [o]).length (bEk (g.options ++ [o]));rw[e1,List.length_append];exact h1
 ·exact((((A.wr.weaken (fun k e=>.inl e)).then_below (aB W3 _)).trans (hg.weaken (fun k e=>.inr (.inr (.inr e))))).trans (hs.weaken (fun k e=>.inr (.inl e))))
 ·intro k hk;rcases A.ob with e|e
  ·exact .inl (by rw[<-e];exact hk)
  ·right;rw[e] at hk;injection hk with hk
   have:=A.wr.size;omega
end
theorem bNv(n1 br bf:Nat)(bad:Bool)(g:aE)(pv ov:Value)(s:List UInt8)(hl:s.length<=65536)(hgl:g.picks.length<=1000000)(W:World)(hE:iE W)(hn1:n1<=W.heap.size)(hF:FSt W n1 br bf bad g pv ov):
  Calls prog 129 #[.pointer (some ⟨br,0,none⟩),.pointer (some ⟨bf,0,none⟩),.int .i64 10,.string ⟨s.toArray⟩] W (Fld W n1 br bf bad g pv ov 10 s):=by
 have HF:=Hd hF;have HRF:Hid (bCi g 10 s=(bE4 s).map fun x=>{ g with picks:=g.picks++x }):=rfl
 by_cases hd:s=[45]
 ·subst hd;have hr:bCi g 10 [45]=some g:=by rw[HRF.out];show some { g with picks:=g.picks ++ [] }=some g;rw[List.append_nil]
  have HR:=Hd hr;clear HRF hr hF hE;go_enter func129,ntmps129;go_wp2;exact bodyPost_ret (v:=.tuple #[]) (by simp[results,results129,go_sem]) rfl ⟨⟨_,rfl⟩,bad,g,pv,ov,HF.out,aZf.refl _ _,fun _ h=>.inl h,fun _ h=>.inl h,by rw[HR.out];simp,fun h e=>by rw[HR.out] at e;exact Option.some.inj e,Nat.le_add_right _ _,Nat.le_add_right _ _⟩
 ·have hds:(s == [45])=false:=by simpa using hd
  have HRP:Hid (bE4 s=bGm bEx ((bDb 44 s).map (bDb 58))):=by show _=_;unfold bE4;rw[if_neg hd]
  have HPA:=Hd (bIi br bad s 2 W hE hF.kr hl);have hcount:(bDb 44 s).length<=65537:=Nat.le_trans (bFt 44 s) (by omega);have hpos:(bDb 44 s).length≠0:=fun e=>bKt 44 s (List.length_eq_zero_iff.1 e)
  have HLS:Hid (((bDb 44 s).map (bDb 58)).length=(bDb 44 s).length):=List.length_map _;have HXL:Hid (∀l,l∈(bDb 44 s).map (bDb 58)->∀x,x∈l->x.length<=65536):=fun l hl' x hx=>by
   obtain⟨y,hy,rfl⟩:=List.mem_map.1 hl';have:=bEo hy;have:=bEo hx;omega
  clear hF hd hE hl;generalize(bDb 44 s).map (bDb 58)=ls at *;generalize(bDb 44 s).length=m at *;go_enter func129,ntmps129;go_wp2_with fail;refine HPA.out.mono ?_;rintro e W1 (⟨hall,v,vs,rfl,hown,hpa,hb⟩|⟨hall,rfl,hw,hk⟩)
  ·obtain⟨m',rfl⟩:∃m',m=m'+1:=⟨m-1,by omega⟩
   obtain⟨gv,cap,rfl⟩:=ownsRow_succ hown;have HF1:=Hd (HF.out.below hb);have HR1:Hid (W1.ownsRow W.heap.size 36 1 (.slice (some ⟨gv,0,none⟩) (m'+1) cap) (m'+1) vs/\bD3 W1 vs ls):=⟨hown,hpa⟩
   have HW1:Hid (aZf (Tch br bf pv ov) W W1):=aZf.of_below hb;have HALL:=Hd hall;have HNN:Hid (n1<=W.heap.size):=hn1;clear hall hown hpa hb hn1;go_wp2_with fail;go_loopw [102] (fun iv wr=>∃k:Nat,k<=m'+1/\iv=.int .i64 (k:Int)/\∃pvk,Hid (FSt wr n1 br bf (bad || (ls.take k).any bEz) { g with picks:=g.picks++(ls.take k).map bE6 } pvk ov)/\Hid (aZf (Tch br bf pv ov) W wr)/\Hid (∀j,pvk.ownBlock=some j->pv.ownBlock=some j∨W.heap.size<=j)/\Hid (wr.ownsRow W.heap.size 36 1 (.slice (some ⟨gv,0,none⟩) (m'+1) cap) (m'+1) vs/\bD3 wr vs ls)) (fun iv _=>m'+1-(intOf iv).toNat)
   case atStart=>exact⟨0,Nat.zero_le _,rfl,pv,by show FSt _ _ _ _ _ _ _ _;simpa using HF1.out,HW1,fun j h=>.inl h,HR1⟩
   case round =>
    obtain⟨k,hk,rfl,pvk,HFK,HWK,HPV,HRW⟩:=hrel
    by_cases hlt:k<m'+1
    ·obtain⟨l,hlk⟩:∃l,ls[k]?=some l:=⟨ls[k]'(by rw[HLS.out];exact hlt),Lg _⟩
     have hl2:=HALL.out l (List.mem_of_getElem? hlk);have hxl:=HXL.out l (List.mem_of_getElem? hlk);obtain⟨x,y,rfl⟩:∃x y,l=[x,y]:=by
      match l,hl2 with
      | [x,y],_=>exact⟨x,y,rfl⟩
     obtain⟨b,hvs,hbox⟩:=HRW.out.2.2 k _ hlk;have hbox:aP wr b #[.string ⟨x.toArray⟩,.string ⟨y.toArray⟩] 9:=hbox;have cr:wr.cell? ⟨gv,k,none⟩=some (.slice (some ⟨b,0,none⟩) 2 2):=(World.ownsRow.cellAt HRW.out.1 k (by omega)).trans hvs;have c0:wr.cell? ⟨b,0,none⟩=some (.string ⟨x.toArray⟩):=hbox.cell 0;have hgk:({ g with picks:=g.picks++(ls.take k).map bE6 }:aE).picks.length<=1100000:=by
      show (g.picks++(ls.take k).map bE6).length<=_;rw[List.length_append,List.length_map,List.length_take];omega
     have HT1:Hid ((ls.take (k+1)).any bEz=((ls.take k).any bEz || (x.isEmpty || (bDv y).isNone))):=by show _=_;rw[List.take_add_one,hlk,List.any_append];simp[bEz]
     have HT2:Hid (({ g with picks:=g.picks++(ls.take (k+1)).map bE6 }:aE) = { ({ g with picks:=g.picks++(ls.take k).map bE6 }:aE) with picks:=({ g with picks:=g.picks++(ls.take k).map bE6 }:aE).picks ++ [⟨x,(bDv y).getD []⟩] }):=by show _=_;rw[List.take_add_one,hlk];simp[bE6]
     have hyl:=hxl y (by simp);have HRI:Hid (∀b2:Bool,∀W',aP W' br #[.bool b2] 96->Calls prog 189 #[.pointer (some ⟨br,0,none⟩),.string ⟨y.toArray⟩] W' fun e w'=>e=.returned (.string ⟨((bDv y).getD []).toArray⟩)/\aZf (· = br) W' w'/\aP w' br #[.bool (b2 || (bDv y).isNone)] 96):=fun b2 W' hk'=>(bHl br b2 y W' hk' hyl).mono fun e w' h=>⟨h.1,h.2.wrote.1,h.2.wrote.2⟩
     generalize({ g with picks:=g.picks++(ls.take k).map bE6 }:aE)=gk at *;have k0:=HFK.out.kr.cell 0;have kf:=aR HFK.out.kr.2 0;have HST:Hid (∀b2:Bool,FSt (wr.setCell ⟨br,0,none⟩ (.bool b2)) n1 br bf b2 gk pvk ov):=fun b2=>HFK.out.mark (aZf.set _ _ _ rfl) (bEq HFK.out.kr)
     have HBX2:Hid (∀b2:Bool,aP (wr.setCell ⟨br,0,none⟩ (.bool b2)) b #[.string ⟨x.toArray⟩,.string ⟨y.toArray⟩] 9):=fun b2=>(aZf.set (S:=(· = br)) wr ⟨br,0,none⟩ (.bool b2) rfl).box hbox (fun e=>bDt hbox HFK.out.kr (by decide) e)
     have HN1:Hid (∀b2:Bool,n1<=(wr.setCell ⟨br,0,none⟩ (.bool b2)).heap.size):=fun b2=>by have:=HNN.out;have:=HWK.out.size;simp[World.setCell];omega
     have HGL:Hid (gk.picks.length<=10000000):=by show _<=_;omega
     have HTC:Hid (∀j,Tch br bf pvk ov j->Tch br bf pv ov j∨W.heap.size<=j):=fun j hj=>by
      rcases hj with h|h|h|h
      ·exact .inl (.inl h)
      ·exact .inl (.inr (.inl h))
      ·exact(HPV.out j h).imp (fun h=>.inr (.inr (.inl h))) id
      ·exact .inl (.inr (.inr (.inr h)))
     have HNR:Hid (∀j,(Value.slice (some ⟨gv,0,none⟩) (m'+1) cap).ownBlock=some j->¬ Tch br bf pvk ov j):=HFK.out.not_row HRW.out.1 (by decide) (by decide) (by decide) (by decide);have HNB:Hid (∀b cs,aP wr b cs 9->¬ Tch br bf pvk ov b):=fun b cs h=>HFK.out.not_box h (by decide) (by decide) (by decide) (by decide)
     generalize(ls.take k).any bEz=tb at *;generalize hbb:(bad || tb)=bb at *;have HBB:=Hd hbb;generalize(bDv y).isNone=nn at *;generalize(bDv y).getD []=qq at *;clear hbox hlk hvs hl2 hxl hyl hgk hbb;cases bb
     ·by_cases hx:x=[]
      ·subst hx;go_wp2_with fail;refine bG9 (C:=⟨(wr.setCell ⟨br,0,none⟩ (.bool true)).drewN 1,br,bf,b,true,true || nn,gk.cellsW pvk ov,pvk,gk.picks.length,bEr gk.picks,n1,⟨([]:List UInt8).toArray⟩,⟨y.toArray⟩,⟨qq.toArray⟩⟩) ⟨rfl,rfl,rfl,rfl,(HST.out true).kr,(HST.out true).kf,rfl,HBX2.out true,(HST.out true).op,HN1.out true,HGL.out,HRI.out true⟩ rfl rfl rfl ?_;intro γ ap;obtain⟨s1,s2,s3⟩:=((HST.out true).below (aD (Br _ _) 1)).pick (x:=[]) (q:=qq) ap;have HS1:=Hd s1;have HS2:=Hd (((aZf.set (S:=Tch br bf pvk ov) wr ⟨br,0,none⟩ (.bool true) (.inl rfl)).then_below (aD (Br _ _) 1)).trans s2);have HS3:Hid (∀j,γ.v'.ownBlock=some j->pvk.ownBlock=some j∨wr.heap.size<=j):=fun j hj=>(s3 j hj).imp id (fun h=>by
        have e:((wr.setCell ⟨br,0,none⟩ (.bool true)).drewN 1).heap.size=wr.heap.size:=by simp[World.setCell]
        omega)
       clear ap s1 s2 s3;simp only[iZ,bJ2,List.foldl,List.setIfInBounds_toArray,List.set_cons_zero,List.set_cons_succ,bFc.val];go_wp2;go_roundw
       case rel=>exact⟨k+1,by omega,by go_num,γ.v',by show FSt _ _ _ _ _ _ _ _;rw[HT1.out,HT2.out,show (bad || (tb || (([]:List UInt8).isEmpty || nn)))=(true || nn) by rw[<-Bool.or_assoc,HBB.out];rfl];exact HS1.out,HWK.out.step HS2.out HTC.out,fun j hj=>(HS3.out j hj).elim (fun h=>HPV.out j h) (fun h=>.inr (Nat.le_trans HWK.out.size h)),⟨bDd HRW.out.1 HS2.out HNR.out,HRW.out.2.wrote HS2.out HNB.out⟩⟩
       case measure=>simp[intOf];omega
      ·have hxs:(x == [])=false:=by simpa using hx
       have hxe:x.isEmpty=false:=by cases x;exact absurd rfl hx;rfl
       have HXE:=Hd hxe;clear hx hxe;go_wp2_with fail;refine bG9 (C:=⟨(wr.setCell ⟨br,0,none⟩ (.bool false)).drewN 1,br,bf,b,false,false || nn,gk.cellsW pvk ov,pvk,gk.picks.length,bEr gk.picks,n1,⟨(x:List UInt8).toArray⟩,⟨y.toArray⟩,⟨qq.toArray⟩⟩) ⟨rfl,rfl,rfl,rfl,(HST.out false).kr,(HST.out false).kf,rfl,HBX2.out false,(HST.out false).op,HN1.out false,HGL.out,HRI.out false⟩ rfl rfl rfl ?_;intro γ ap;obtain⟨s1,s2,s3⟩:=((HST.out false).below (aD (Br _ _) 1)).pick (x:=x) (q:=qq) ap;have HS1:=Hd s1;have HS2:=Hd (((aZf.set (S:=Tch br bf pvk ov) wr ⟨br,0,none⟩ (.bool false) (.inl rfl)).then_below (aD (Br _ _) 1)).trans s2);have HS3:Hid (∀j,γ.v'.ownBlock=some j->pvk.ownBlock=some j∨wr.heap.size<=j):=fun j hj=>(s3 j hj).imp id (fun h=>by
        have e:((wr.setCell ⟨br,0,none⟩ (.bool false)).drewN 1).heap.size=wr.heap.size:=by simp[World.setCell]
        omega)
       clear ap s1 s2 s3;simp only[iZ,bJ2,List.foldl,List.setIfInBounds_toArray,List.set_cons_zero,List.set_cons_succ,bFc.val];go_wp2;go_roundw
       case rel=>exact⟨k+1,by omega,by go_num,γ.v',by show FSt _ _ _ _ _ _ _ _;rw[HT1.out,HT2.out,show (bad || (tb || (x.isEmpty || nn)))=(false || nn) by rw[<-Bool.or_assoc,HBB.out,HXE.out];rfl];exact HS1.out,HWK.out.step HS2.out HTC.out,fun j hj=>(HS3.out j hj).elim (fun h=>HPV.out j h) (fun h=>.inr (Nat.le_trans HWK.out.size h)),⟨bDd HRW.out.1 HS2.out HNR.out,HRW.out.2.wrote HS2.out HNB.out⟩⟩
       case measure=>simp[intOf];omega
     ·go_wp2_with fail;refine bG9 (C:=⟨(wr.setCell ⟨br,0,none⟩ (.bool true)).drewN 1,br,bf,b,true,true || nn,gk.cellsW pvk ov,pvk,gk.picks.length,bEr gk.picks,n1,⟨(x:List UInt8).toArray⟩,⟨y.toArray⟩,⟨qq.toArray⟩⟩) ⟨rfl,rfl,rfl,rfl,(HST.out true).kr,(HST.out true).kf,rfl,HBX2.out true,(HST.out true).op,HN1.out true,HGL.out,HRI.out true⟩ rfl rfl rfl ?_;intro γ ap;obtain⟨s1,s2,s3⟩:=((HST.out true).below (aD (Br _ _) 1)).pick (x:=x) (q:=qq) ap;have HS1:=Hd s1;have HS2:=Hd (((aZf.set (S:=Tch br bf pvk ov) wr ⟨br,0,none⟩ (.bool true) (.inl rfl)).then_below (aD (Br _ _) 1)).trans s2);have HS3:Hid (∀j,γ.v'.ownBlock=some j->pvk.ownBlock=some j∨wr.heap.size<=j):=fun j hj=>(s3 j hj).imp id (fun h=>by
       have e:((wr.setCell ⟨br,0,none⟩ (.bool true)).drewN 1).heap.size=wr.heap.size:=by simp[World.setCell]
       omega)
      clear ap s1 s2 s3;simp only[iZ,bJ2,List.foldl,List.setIfInBounds_toArray,List.set_cons_zero,List.set_cons_succ,bFc.val];go_wp2;go_roundw
      case rel=>exact⟨k+1,by omega,by go_num,γ.v',by show FSt _ _ _ _ _ _ _ _;rw[HT1.out,HT2.out,show (bad || (tb || (x.isEmpty || nn)))=(true || nn) by rw[<-Bool.or_assoc,HBB.out];rfl];exact HS1.out,HWK.out.step HS2.out HTC.out,fun j hj=>(HS3.out j hj).elim (fun h=>HPV.out j h) (fun h=>.inr (Nat.le_trans HWK.out.size h)),⟨bDd HRW.out.1 HS2.out HNR.out,HRW.out.2.wrote HS2.out HNB.out⟩⟩
      case measure=>simp[intOf];omega
    ·obtain rfl:k=m'+1:=by omega
     have hfk:=HFK.out;rw[show ls.take (m'+1)=ls from List.take_of_length_le (by rw[HLS.out];exact Nl _)] at hfk;have HFE:=Hd hfk;have HRD:Hid (bCi g 10 s=if ls.any bEz=true then none else some { g with picks:=g.picks++ls.map bE6 }):=by
      show _=_;rw[HRF.out,HRP.out,bIf (g:=bE6) (b:=bEz) (fun l hl=>bKy (HALL.out l hl))]
      by_cases h:ls.any bEz=true
      ·rw[if_pos h,if_pos h];rfl
      ·rw[if_neg h,if_neg h];rfl
     clear hfk HFK;go_wp2;refine bodyPost_ret (v:=.tuple #[]) (by simp[results,results129,go_sem]) rfl ⟨⟨_,rfl⟩,_,_,pvk,ov,HFE.out,HWK.out,HPV.out,fun _ h=>.inl h,?_,fun h e=>?_,?_,Nat.le_add_right _ _⟩
     ·rw[HRD.out];cases ls.any bEz <;> rfl
     ·rw[HRD.out] at e;split at e
      ·cases e
      ·exact Option.some.inj e
     ·show (g.picks++ls.map bE6).length<=_;rw[List.length_append,List.length_map,HLS.out];omega
  ·have HF1:=Hd (HF.out.mark hw hk);have HW1:Hid (aZf (Tch br bf pv ov) W W1):=hw.weaken (fun k e=>.inl e);have HNO:Hid (bCi g 10 s=none):=by
    show _=_;rw[HRF.out,HRP.out];obtain⟨l,hl1,hl2⟩:∃l,l∈ls/\l.length≠2:=by
     apply Classical.byContradiction;intro h;exact hall fun l hl'=>Classical.byContradiction fun h'=>h ⟨l,hl',h'⟩
    rw[bIg hl1 (bKx hl2)];rfl
   clear hw hk hall;go_wp2_with fail;go_loopw [102] (fun iv wr=>iv=.int .i64 0/\Hid (wr=W1)) (fun _ _=>0)
   case atStart=>exact⟨rfl,rfl⟩
   case round =>
    obtain⟨rfl,HWR⟩:=hrel;go_wp2;exact bodyPost_ret (v:=.tuple #[]) (by simp[results,results129,go_sem]) rfl ⟨⟨_,rfl⟩,true,g,pv,ov,by rw[HWR.out];exact HF1.out,by rw[HWR.out];exact HW1.out,fun _ h=>.inl h,fun _ h=>.inl h,by rw[HNO.out];simp,fun h e=>(by rw[HNO.out] at e;cases e),Nat.le_add_right _ _,Nat.le_add_right _ _⟩
end
section
open Go Go.RowKit Num
def bFo(l:List UInt8):List UInt8:=if l=[45] then[] else l
def bF4(l:List (List UInt8)):eJ:=⟨bFo (l.getD 0 []),(bDm (l.getD 1 [])).getD bD4,(bDm (l.getD 2 [])).getD bD4,(bDm (l.getD 3 [])).getD bD4⟩
def bFp(l:List (List UInt8)):Bool:=(((bDm (l.getD 1 [])).isNone || (bDm (l.getD 2 [])).isNone) || (bDm (l.getD 3 [])).isNone) || (l.getD 0 []).isEmpty
theorem bLv{l:List (List UInt8)}(h:l.length=4):bFh l=if bFp l=true then none else some (bF4 l):=by
 match l,h with
 | [a,b,c,d],_ =>
  unfold bFh bFp bF4 bFo;simp only[List.getD_cons_zero,List.getD_cons_succ];cases a with
  |nil =>
   rw[if_pos rfl,if_pos (by simp)]
  |cons x t =>
   rw[if_neg (by simp)];cases hb:bDm b with
   |none=>rfl
   |some x1 =>
    cases hc:bDm c with
    |none=>rfl
    |some x2 =>
     cases hd:bDm d with
     |none=>rfl
     |some x3=>rfl
theorem bLu{l:List (List UInt8)}(h:l.length≠4):bFh l=none:=by
 unfold bFh;split
 ·exact absurd rfl h
 ·rfl
theorem bOr(n1 br bf:Nat)(bad:Bool)(g:aE)(pv ov:Value)(s:List UInt8)(hl:s.length<=65536)(hgl:g.options.length<=1000000)(W w0:World)(hE0:iE w0)(hw0:Below w0.heap.size w0 W)(hbr:w0.heap.size<=br)(hn1:n1<=W.heap.size)(hno:w0.heap.size<=n1)(hbf:w0.heap.size<=bf)(hF:FSt W n1 br bf bad g pv ov):
  Calls prog 129 #[.pointer (some ⟨br,0,none⟩),.pointer (some ⟨bf,0,none⟩),.int .i64 11,.string ⟨s.toArray⟩] W (Fld W n1 br bf bad g pv ov 11 s):=by
 have HF:=Hd hF;have HRF:Hid (bCi g 11 s=(bGm bFh ((bDb 44 s).map (bDb 58))).map fun x=>{ g with options:=g.options++x }):=rfl;have hE:=hE0.below hw0;have HPA:=Hd (bIi br bad s 4 W hE hF.kr hl);have HEW:Hid (∀A,aZf (fun j=>w0.heap.size<=j) W A->iE A):=fun A h=>hE0.below (hw0.trans (h.below hw0.size (fun j hj e=>by omega)))
 have HTW:Hid (∀ovk,(∀j,Value.ownBlock ovk=some j->ov.ownBlock=some j∨W.heap.size<=j)->∀j,Tch br bf pv ovk j->w0.heap.size<=j):=fun ovk h j hj=>by
  rcases hj with e|e|e|e
  ·omega
  ·omega
  ·have:=hF.op.lt _ e;omega
  ·rcases h j e with e|e
   ·have:=hF.oo.lt _ e;omega
   ·have:=hw0.size;omega
 have hcount:(bDb 44 s).length<=65537:=Nat.le_trans (bFt 44 s) (by omega);have hpos:(bDb 44 s).length≠0:=fun e=>bKt 44 s (List.length_eq_zero_iff.1 e)
 have HLS:Hid (((bDb 44 s).map (bDb 58)).length=(bDb 44 s).length):=List.length_map _;have HXL:Hid (∀l,l∈(bDb 44 s).map (bDb 58)->∀x,x∈l->x.length<=65536):=fun l hl' x hx=>by
  obtain⟨y,hy,rfl⟩:=List.mem_map.1 hl';have:=bEo hy;have:=bEo hx;omega
 have HNN:Hid (n1<=W.heap.size):=hn1;clear hF hE0 hE hl hw0 hbr hno hbf hn1;generalize(bDb 44 s).map (bDb 58)=ls at *;generalize(bDb 44 s).length=m at *;go_enter func129,ntmps129;go_wp2_with fail;refine HPA.out.mono ?_;rintro e W1 (⟨hall,v,vs,rfl,hown,hpa,hb⟩|⟨hall,rfl,hw,hk⟩)
 ·obtain⟨m',rfl⟩:∃m',m=m'+1:=⟨m-1,by omega⟩
  obtain⟨gv,cap,rfl⟩:=ownsRow_succ hown;have HF1:=Hd (HF.out.below hb);have HR1:Hid (W1.ownsRow W.heap.size 36 1 (.slice (some ⟨gv,0,none⟩) (m'+1) cap) (m'+1) vs/\bD3 W1 vs ls):=⟨hown,hpa⟩
  have HW1:Hid (aZf (Tch br bf pv ov) W W1):=aZf.of_below hb;have HALL:=Hd hall;clear hall hown hpa hb;go_wp2_with fail;go_loopw [144] (fun iv wr=>∃k:Nat,k<=m'+1/\iv=.int .i64 (k:Int)/\∃ovk,Hid (FSt wr n1 br bf (bad || (ls.take k).any bFp) { g with options:=g.options++(ls.take k).map bF4 } pv ovk)/\Hid (aZf (Tch br bf pv ov) W wr)/\Hid (∀j,ovk.ownBlock=some j->ov.ownBlock=some j∨W.heap.size<=j)/\Hid (wr.ownsRow W.heap.size 36 1 (.slice (some ⟨gv,0,none⟩) (m'+1) cap) (m'+1) vs/\bD3 wr vs ls)) (fun iv _=>m'+1-(intOf iv).toNat)
  case atStart=>exact⟨0,Nat.zero_le _,rfl,ov,by show FSt _ _ _ _ _ _ _ _;simpa using HF1.out,HW1,fun j h=>.inl h,HR1⟩
  case round =>
   obtain⟨k,hk,rfl,ovk,HFK,HWK,HPV,HRW⟩:=hrel
   by_cases hlt:k<m'+1
   ·obtain⟨l,hlk⟩:∃l,ls[k]?=some l:=⟨ls[k]'(by rw[HLS.out];exact hlt),Lg _⟩
    have hl2:=HALL.out l (List.mem_of_getElem? hlk);have hxl:=HXL.out l (List.mem_of_getElem? hlk);obtain⟨x,y1,y2,y3,rfl⟩:∃x y1 y2 y3,l=[x,y1,y2,y3]:=by
     match l,hl2 with
     | [x,y1,y2,y3],_=>exact⟨x,y1,y2,y3,rfl⟩
    obtain⟨b,hvs,hbox⟩:=HRW.out.2.2 k _ hlk;have hbox:aP wr b #[.string ⟨x.toArray⟩,.string ⟨y1.toArray⟩,.string ⟨y2.toArray⟩,.string ⟨y3.toArray⟩] 9:=hbox;have cr:wr.cell? ⟨gv,k,none⟩=some (.slice (some ⟨b,0,none⟩) 4 4):=(World.ownsRow.cellAt HRW.out.1 k (by omega)).trans hvs;have hgk:({ g with options:=g.options++(ls.take k).map bF4 }:aE).options.length<=1100000:=by
     show (g.options++(ls.take k).map bF4).length<=_;rw[List.length_append,List.length_map,List.length_take];omega
    have HT1:Hid ((ls.take (k+1)).any bFp=((ls.take k).any bFp || ((((bDm y1).isNone || (bDm y2).isNone) || (bDm y3).isNone) || x.isEmpty))):=by show _=_;rw[List.take_add_one,hlk,List.any_append];simp[bFp]
    have HT2:Hid (({ g with options:=g.options++(ls.take (k+1)).map bF4 }:aE) = { ({ g with options:=g.options++(ls.take k).map bF4 }:aE) with options:=({ g with options:=g.options++(ls.take k).map bF4 }:aE).options ++ [⟨bFo x,(bDm y1).getD bD4,(bDm y2).getD bD4,(bDm y3).getD bD4⟩] }):=by show _=_;rw[List.take_add_one,hlk];simp[bF4]
    have HE3:Hid (∀A,aZf (fun j=>w0.heap.size<=j) wr A->iE A):=fun A h=>HEW.out A ((HWK.out.weaken (fun j hj=>HTW.out ov (fun _ h=>.inl h) j hj)).trans h)
    have HBR:Hid (w0.heap.size<=br):=HTW.out ov (fun _ h=>.inl h) br (.inl rfl);have HRI:Hid (∀y,y∈[x,y1,y2,y3]->∀b2:Bool,∀W',aZf (· = br) wr W'->aP W' br #[.bool b2] 96->Calls prog 190 #[.pointer (some ⟨br,0,none⟩),.string ⟨y.toArray⟩] W' fun e w'=>e=.returned (.agg #[.string ⟨((bDm y).getD bD4).n.toArray⟩,.string ⟨((bDm y).getD bD4).d.toArray⟩])/\aZf (· = br) W' w'/\aP w' br #[.bool (b2 || (bDm y).isNone)] 96):=fun y hy b2 W' hw' hk'=>bG0 br b2 y W' (HE3.out W' (hw'.weaken (fun j e=>by rw[e];exact HBR.out))) hk' (hxl y hy)
    have H1:=Hd (HRI.out y1 (by simp));have H2:=Hd (HRI.out y2 (by simp));have H3:=Hd (HRI.out y3 (by simp));generalize({ g with options:=g.options++(ls.take k).map bF4 }:aE)=gk at *;have HGL:Hid (gk.options.length<=10000000):=by show _<=_;omega
    have HTC:Hid (∀j,Tch br bf pv ovk j->Tch br bf pv ov j∨W.heap.size<=j):=fun j hj=>by
     rcases hj with h|h|h|h
     ·exact .inl (.inl h)
     ·exact .inl (.inr (.inl h))
     ·exact .inl (.inr (.inr (.inl h)))
     ·exact(HPV.out j h).imp (fun h=>.inr (.inr (.inr h))) id
    have HNR:Hid (∀j,(Value.slice (some ⟨gv,0,none⟩) (m'+1) cap).ownBlock=some j->¬ Tch br bf pv ovk j):=HFK.out.not_row HRW.out.1 (by decide) (by decide) (by decide) (by decide);have HNB:Hid (∀b cs,aP wr b cs 9->¬ Tch br bf pv ovk b):=fun b cs h=>HFK.out.not_box h (by decide) (by decide) (by decide) (by decide)
    generalize(ls.take k).any bFp=tb at *;generalize hbb:(bad || tb)=bb at *;have HBB:=Hd hbb;generalize(bDm y1).isNone=nn1 at *;generalize(bDm y2).isNone=nn2 at *;generalize(bDm y3).isNone=nn3 at *;generalize(bDm y1).getD bD4=R at *;generalize(bDm y2).getD bD4=P at *;generalize(bDm y3).getD bD4=V at *;have HBOX:=Hd hbox;clear hbox hlk hvs hl2 hxl hgk hbb HRI;go_wp2_with fail;refine bL4 (C:=⟨wr.drewN 1,br,b,bb,bb || nn1,bb || nn1 || nn2,bb || nn1 || nn2 || nn3,⟨x.toArray⟩,⟨y1.toArray⟩,⟨y2.toArray⟩,⟨y3.toArray⟩,⟨R.n.toArray⟩,⟨R.d.toArray⟩,⟨P.n.toArray⟩,⟨P.d.toArray⟩,⟨V.n.toArray⟩,⟨V.d.toArray⟩⟩) ⟨rfl,rfl,rfl,HFK.out.kr,HBOX.out,fun W' h k'=>H1.out bb W' ((aZf.of_below (aD (Br _ _) 1)).trans h) k',fun W' h k'=>H2.out _ W' ((aZf.of_below (aD (Br _ _) 1)).trans h) k',fun W' h k'=>H3.out _ W' ((aZf.of_below (aD (Br _ _) 1)).trans h) k'⟩ rfl rfl rfl ?_;intro γo Wo hgo hwo kbo koo;have hwo2:aZf (· = br) wr Wo:=(aZf.of_below (aD (Br _ _) 1)).trans hwo;have HFo:=Hd (HFK.out.mark hwo2 kbo);have HWO:Hid (aZf (Tch br bf pv ovk) wr Wo):=hwo2.weaken (fun j e=>.inl e);have HGO:Hid (wr.heap.size<=γo):=hgo;have HKO:Hid (aP Wo γo (eJ.cells ⟨x,R,P,V⟩).toArray 55):=koo;have hnbo:br ≠ γo:=bDt kbo koo (by decide);generalize hb3:(bb || nn1 || nn2 || nn3)=b3 at *;have HB3:=Hd hb3;have HSO:Hid (∀b4:Bool,FSt (Wo.setCell ⟨br,0,none⟩ (.bool b4)) n1 br bf b4 gk pv ovk):=fun b4=>HFo.out.mark (aZf.set _ _ _ rfl) (bEq HFo.out.kr)
    have HKS:Hid (∀b4:Bool,aP (Wo.setCell ⟨br,0,none⟩ (.bool b4)) γo (eJ.cells ⟨x,R,P,V⟩).toArray 55):=fun b4=>bI4 koo (Ne.symm hnbo)
    have HNG:Hid (¬ Tch br bf pv ovk γo):=by
     rintro(e|e|e|e)
     ·exact hnbo e.symm
     ·exact bDt koo HFo.out.kf (by decide) e
     ·exact bC0 koo (by decide) HFo.out.op e
     ·have:=HFK.out.oo.lt _ e;have:=HGO.out;omega
    have k0:=HFo.out.kr.cell 0;have kf:=aR HFo.out.kr.2 0;have o0:Wo.cell? ⟨γo,0,none⟩=some (.string ⟨x.toArray⟩):=koo.cell 0;have hm0:∀b4:Bool,(Wo.setCell ⟨br,0,none⟩ (.bool b4)).cell? ⟨γo,0,none⟩=some (.string ⟨x.toArray⟩):=fun b4=>(HKS.out b4).cell 0
    have hmf:∀b4:Bool,(Wo.setCell ⟨br,0,none⟩ (.bool b4)).frozen? ⟨γo,0,none⟩=false:=fun b4=>aR (HKS.out b4).2 0
    clear hgo hwo hwo2 kbo koo hnbo hb3 H1 H2 H3;simp only[iZ,bM8,List.foldl,List.setIfInBounds_toArray,List.set_cons_zero,List.set_cons_succ,bE2.val];have HUD:Hid (bFo x=if x=[45] then[] else x):=rfl;cases b3
    ·by_cases hx:x=[]
     ·subst hx;go_wp2_with fail;have HA:Hid (FSt (Wo.setCell ⟨br,0,none⟩ (.bool true)) n1 br bf true gk pv ovk):=HSO.out true;have HWA:Hid (aZf (Tch br bf pv ovk) wr (Wo.setCell ⟨br,0,none⟩ (.bool true))):=HWO.out.trans (aZf.set _ _ _ (.inl rfl));have HKA:Hid (aP (Wo.setCell ⟨br,0,none⟩ (.bool true)) γo (eJ.cells ⟨[],R,P,V⟩).toArray 55):=HKS.out true;have HN1:Hid (n1<=(Wo.setCell ⟨br,0,none⟩ (.bool true)).heap.size):=by show _<=_;have:=HNN.out;have:=HWK.out.size;have:=HWA.out.size;omega
      refine bFq (C:=⟨(Wo.setCell ⟨br,0,none⟩ (.bool true)).drewN 1,br,bf,γo,true,gk.cellsW pv ovk,ovk,gk.options.length,bEk gk.options,n1,⟨[],R,P,V⟩⟩) ⟨rfl,rfl,rfl,HA.out.kr,HA.out.kf,rfl,HKA.out,HA.out.oo,HN1.out,HGL.out⟩ rfl rfl rfl ?_;intro γ ap;obtain⟨s1,s2,s3⟩:=(HA.out.below (aD (Br _ _) 1)).option (o:=⟨[],R,P,V⟩) ap;have HS1:=Hd s1;have HS2:=Hd ((HWA.out.then_below (aD (Br _ _) 1)).trans s2);have HS3:Hid (∀j,γ.v'.ownBlock=some j->ovk.ownBlock=some j∨wr.heap.size<=j):=fun j hj=>(s3 j hj).imp id (fun h=>Nat.le_trans HWA.out.size h)
      clear ap s1 s2 s3;simp only[iZ,bIl,List.foldl,List.setIfInBounds_toArray,List.set_cons_zero,List.set_cons_succ,bFk.val];go_wp2;go_roundw
      case rel=>exact⟨k+1,by omega,by go_num,γ.v',by show FSt _ _ _ _ _ _ _ _;rw[HT1.out,HT2.out,show bFo ([]:List UInt8)=[] from rfl,show (bad || (tb || (((nn1 || nn2) || nn3) || ([]:List UInt8).isEmpty)))=true by simp];exact HS1.out,HWK.out.step HS2.out HTC.out,fun j hj=>(HS3.out j hj).elim (fun h=>HPV.out j h) (fun h=>.inr (Nat.le_trans HWK.out.size h)),⟨bDd HRW.out.1 HS2.out HNR.out,HRW.out.2.wrote HS2.out HNB.out⟩⟩
      case measure=>simp[intOf];omega
     ·by_cases hxd:x=[45]
      ·subst hxd;go_wp2_with fail;have HA:Hid (FSt ((Wo.setCell ⟨br,0,none⟩ (.bool false)).setCell ⟨γo,0,none⟩ (.string ⟨#[]⟩)) n1 br bf false gk pv ovk):=(HSO.out false).wrote (S:=(· = γo)) (aZf.set _ _ _ rfl) (fun j hj e=>HNG.out (by rw[<-e];exact hj));have HWA:Hid (aZf (Tch br bf pv ovk) wr ((Wo.setCell ⟨br,0,none⟩ (.bool false)).setCell ⟨γo,0,none⟩ (.string ⟨#[]⟩))):=(HWO.out.trans (aZf.set _ _ _ (.inl rfl))).step (S':=(· = γo)) (aZf.set _ _ _ rfl) (fun j hj=>.inr (by rw[hj];exact HGO.out));have HKA:Hid (aP ((Wo.setCell ⟨br,0,none⟩ (.bool false)).setCell ⟨γo,0,none⟩ (.string ⟨#[]⟩)) γo (eJ.cells ⟨[],R,P,V⟩).toArray 55):=bGb (i:=0) (v:=.string ⟨#[]⟩) (HKS.out false);have HN1:Hid (n1<=((Wo.setCell ⟨br,0,none⟩ (.bool false)).setCell ⟨γo,0,none⟩ (.string ⟨#[]⟩)).heap.size):=by show _<=_;have:=HNN.out;have:=HWK.out.size;have:=HWA.out.size;omega
       refine bFq (C:=⟨((Wo.setCell ⟨br,0,none⟩ (.bool false)).setCell ⟨γo,0,none⟩ (.string ⟨#[]⟩)).drewN 1,br,bf,γo,false,gk.cellsW pv ovk,ovk,gk.options.length,bEk gk.options,n1,⟨[],R,P,V⟩⟩) ⟨rfl,rfl,rfl,HA.out.kr,HA.out.kf,rfl,HKA.out,HA.out.oo,HN1.out,HGL.out⟩ rfl rfl rfl ?_;intro γ ap;obtain⟨s1,s2,s3⟩:=(HA.out.below (aD (Br _ _) 1)).option (o:=⟨[],R,P,V⟩) ap;have HS1:=Hd s1;have HS2:=Hd ((HWA.out.then_below (aD (Br _ _) 1)).trans s2);have HS3:Hid (∀j,γ.v'.ownBlock=some j->ovk.ownBlock=some j∨wr.heap.size<=j):=fun j hj=>(s3 j hj).imp id (fun h=>Nat.le_trans HWA.out.size h)
       clear ap s1 s2 s3;simp only[iZ,bIl,List.foldl,List.setIfInBounds_toArray,List.set_cons_zero,List.set_cons_succ,bFk.val];go_wp2;go_roundw
       case rel=>exact⟨k+1,by omega,by go_num,γ.v',by show FSt _ _ _ _ _ _ _ _;rw[HT1.out,HT2.out,show bFo ([45]:List UInt8)=[] from rfl,show (bad || (tb || (((nn1 || nn2) || nn3) || ([45]:List UInt8).isEmpty)))=false by rw[<-HB3.out,<-HBB.out];simp[Bool.or_assoc]];exact HS1.out,HWK.out.step HS2.out HTC.out,fun j hj=>(HS3.out j hj).elim (fun h=>HPV.out j h) (fun h=>.inr (Nat.le_trans HWK.out.size h)),⟨bDd HRW.out.1 HS2.out HNR.out,HRW.out.2.wrote HS2.out HNB.out⟩⟩
       case measure=>simp[intOf];omega
      ·have hxs:(x == [])=false:=by simpa using hx
       have hxd2:(x == [45])=false:=by simpa using hxd
       have HXE:Hid (x.isEmpty=false):=by cases x;exact absurd rfl hx;rfl
       have HUX:Hid (bFo x=x):=by show _=_;unfold bFo;rw[if_neg hxd]
       clear hx hxd;go_wp2_with fail;have HA:Hid (FSt (Wo.setCell ⟨br,0,none⟩ (.bool false)) n1 br bf false gk pv ovk):=HSO.out false;have HWA:Hid (aZf (Tch br bf pv ovk) wr (Wo.setCell ⟨br,0,none⟩ (.bool false))):=HWO.out.trans (aZf.set _ _ _ (.inl rfl));have HKA:Hid (aP (Wo.setCell ⟨br,0,none⟩ (.bool false)) γo (eJ.cells ⟨x,R,P,V⟩).toArray 55):=HKS.out false;have HN1:Hid (n1<=(Wo.setCell ⟨br,0,none⟩ (.bool false)).heap.size):=by show _<=_;have:=HNN.out;have:=HWK.out.size;have:=HWA.out.size;omega
       refine bFq (C:=⟨(Wo.setCell ⟨br,0,none⟩ (.bool false)).drewN 1,br,bf,γo,false,gk.cellsW pv ovk,ovk,gk.options.length,bEk gk.options,n1,⟨x,R,P,V⟩⟩) ⟨rfl,rfl,rfl,HA.out.kr,HA.out.kf,rfl,HKA.out,HA.out.oo,HN1.out,HGL.out⟩ rfl rfl rfl ?_;intro γ ap;obtain⟨s1,s2,s3⟩:=(HA.out.below (aD (Br _ _) 1)).option (o:=⟨x,R,P,V⟩) ap;have HS1:=Hd s1;have HS2:=Hd ((HWA.out.then_below (aD (Br _ _) 1)).trans s2);have HS3:Hid (∀j,γ.v'.ownBlock=some j->ovk.ownBlock=some j∨wr.heap.size<=j):=fun j hj=>(s3 j hj).imp id (fun h=>Nat.le_trans HWA.out.size h)
       clear ap s1 s2 s3;simp only[iZ,bIl,List.foldl,List.setIfInBounds_toArray,List.set_cons_zero,List.set_cons_succ,bFk.val];go_wp2;go_roundw
       case rel=>exact⟨k+1,by omega,by go_num,γ.v',by show FSt _ _ _ _ _ _ _ _;rw[HT1.out,HT2.out,HUX.out,show (bad || (tb || (((nn1 || nn2) || nn3) || x.isEmpty)))=false by rw[<-HB3.out,<-HBB.out,HXE.out];simp[Bool.or_assoc]];exact HS1.out,HWK.out.step HS2.out HTC.out,fun j hj=>(HS3.out j hj).elim (fun h=>HPV.out j h) (fun h=>.inr (Nat.le_trans HWK.out.size h)),⟨bDd HRW.out.1 HS2.out HNR.out,HRW.out.2.wrote HS2.out HNB.out⟩⟩
       case measure=>simp[intOf];omega
    ·by_cases hxd:x=[45]
     ·subst hxd;go_wp2_with fail;have HA:Hid (FSt ((Wo.setCell ⟨br,0,none⟩ (.bool true)).setCell ⟨γo,0,none⟩ (.string ⟨#[]⟩)) n1 br bf true gk pv ovk):=(HSO.out true).wrote (S:=(· = γo)) (aZf.set _ _ _ rfl) (fun j hj e=>HNG.out (by rw[<-e];exact hj));have HWA:Hid (aZf (Tch br bf pv ovk) wr ((Wo.setCell ⟨br,0,none⟩ (.bool true)).setCell ⟨γo,0,none⟩ (.string ⟨#[]⟩))):=(HWO.out.trans (aZf.set _ _ _ (.inl rfl))).step (S':=(· = γo)) (aZf.set _ _ _ rfl) (fun j hj=>.inr (by rw[hj];exact HGO.out));have HKA:Hid (aP ((Wo.setCell ⟨br,0,none⟩ (.bool true)).setCell ⟨γo,0,none⟩ (.string ⟨#[]⟩)) γo (eJ.cells ⟨[],R,P,V⟩).toArray 55):=bGb (i:=0) (v:=.string ⟨#[]⟩) (HKS.out true);have HN1:Hid (n1<=((Wo.setCell ⟨br,0,none⟩ (.bool true)).setCell ⟨γo,0,none⟩ (.string ⟨#[]⟩)).heap.size):=by show _<=_;have:=HNN.out;have:=HWK.out.size;have:=HWA.out.size;omega
      refine bFq (C:=⟨((Wo.setCell ⟨br,0,none⟩ (.bool true)).setCell ⟨γo,0,none⟩ (.string ⟨#[]⟩)).drewN 1,br,bf,γo,true,gk.cellsW pv ovk,ovk,gk.options.length,bEk gk.options,n1,⟨[],R,P,V⟩⟩) ⟨rfl,rfl,rfl,HA.out.kr,HA.out.kf,rfl,HKA.out,HA.out.oo,HN1.out,HGL.out⟩ rfl rfl rfl ?_;intro γ ap;obtain⟨s1,s2,s3⟩:=(HA.out.below (aD (Br _ _) 1)).option (o:=⟨[],R,P,V⟩) ap;have HS1:=Hd s1;have HS2:=Hd ((HWA.out.then_below (aD (Br _ _) 1)).trans s2);have HS3:Hid (∀j,γ.v'.ownBlock=some j->ovk.ownBlock=some j∨wr.heap.size<=j):=fun j hj=>(s3 j hj).imp id (fun h=>Nat.le_trans HWA.out.size h)
      clear ap s1 s2 s3;simp only[iZ,bIl,List.foldl,List.setIfInBounds_toArray,List.set_cons_zero,List.set_cons_succ,bFk.val];go_wp2;go_roundw
      case rel=>exact⟨k+1,by omega,by go_num,γ.v',by show FSt _ _ _ _ _ _ _ _;rw[HT1.out,HT2.out,show bFo ([45]:List UInt8)=[] from rfl,show (bad || (tb || (((nn1 || nn2) || nn3) || ([45]:List UInt8).isEmpty)))=true by rw[<-HB3.out,<-HBB.out];simp[Bool.or_assoc]];exact HS1.out,HWK.out.step HS2.out HTC.out,fun j hj=>(HS3.out j hj).elim (fun h=>HPV.out j h) (fun h=>.inr (Nat.le_trans HWK.out.size h)),⟨bDd HRW.out.1 HS2.out HNR.out,HRW.out.2.wrote HS2.out HNB.out⟩⟩
      case measure=>simp[intOf];omega
     ·have hxd2:(x == [45])=false:=by simpa using hxd
      have HUX:Hid (bFo x=x):=by show _=_;unfold bFo;rw[if_neg hxd]
      clear hxd;go_wp2_with fail;have HA:Hid (FSt (Wo.setCell ⟨br,0,none⟩ (.bool true)) n1 br bf true gk pv ovk):=HSO.out true;have HWA:Hid (aZf (Tch br bf pv ovk) wr (Wo.setCell ⟨br,0,none⟩ (.bool true))):=HWO.out.trans (aZf.set _ _ _ (.inl rfl));have HKA:Hid (aP (Wo.setCell ⟨br,0,none⟩ (.bool true)) γo (eJ.cells ⟨x,R,P,V⟩).toArray 55):=HKS.out true;have HN1:Hid (n1<=(Wo.setCell ⟨br,0,none⟩ (.bool true)).heap.size):=by show _<=_;have:=HNN.out;have:=HWK.out.size;have:=HWA.out.size;omega
      refine bFq (C:=⟨(Wo.setCell ⟨br,0,none⟩ (.bool true)).drewN 1,br,bf,γo,true,gk.cellsW pv ovk,ovk,gk.options.length,bEk gk.options,n1,⟨x,R,P,V⟩⟩) ⟨rfl,rfl,rfl,HA.out.kr,HA.out.kf,rfl,HKA.out,HA.out.oo,HN1.out,HGL.out⟩ rfl rfl rfl ?_;intro γ ap;obtain⟨s1,s2,s3⟩:=(HA.out.below (aD (Br _ _) 1)).option (o:=⟨x,R,P,V⟩) ap;have HS1:=Hd s1;have HS2:=Hd ((HWA.out.then_below (aD (Br _ _) 1)).trans s2);have HS3:Hid (∀j,γ.v'.ownBlock=some j->ovk.ownBlock=some j∨wr.heap.size<=j):=fun j hj=>(s3 j hj).imp id (fun h=>Nat.le_trans HWA.out.size h)
      clear ap s1 s2 s3;simp only[iZ,bIl,List.foldl,List.setIfInBounds_toArray,List.set_cons_zero,List.set_cons_succ,bFk.val];go_wp2;go_roundw
      case rel=>exact⟨k+1,by omega,by go_num,γ.v',by show FSt _ _ _ _ _ _ _ _;rw[HT1.out,HT2.out,HUX.out,show (bad || (tb || (((nn1 || nn2) || nn3) || x.isEmpty)))=true by have h1:=HB3.out;rw[<-HBB.out] at h1;revert h1;cases bad <;> cases tb <;> cases nn1 <;> cases nn2 <;> cases nn3 <;> simp];exact HS1.out,HWK.out.step HS2.out HTC.out,fun j hj=>(HS3.out j hj).elim (fun h=>HPV.out j h) (fun h=>.inr (Nat.le_trans HWK.out.size h)),⟨bDd HRW.out.1 HS2.out HNR.out,HRW.out.2.wrote HS2.out HNB.out⟩⟩
      case measure=>simp[intOf];omega
   ·obtain rfl:k=m'+1:=by omega
    have hfk:=HFK.out;rw[show ls.take (m'+1)=ls from List.take_of_length_le (by rw[HLS.out];exact Nl _)] at hfk;have HFE:=Hd hfk;have HRD:Hid (bCi g 11 s=if ls.any bFp=true then none else some { g with options:=g.options++ls.map bF4 }):=by
     show _=_;rw[HRF.out,bIf (g:=bF4) (b:=bFp) (fun l hl=>bLv (HALL.out l hl))]
     by_cases h:ls.any bFp=true
     ·rw[if_pos h,if_pos h];rfl
     ·rw[if_neg h,if_neg h];rfl
    clear hfk HFK;go_wp2;refine bodyPost_ret (v:=.tuple #[]) (by simp[results,results129,go_sem]) rfl ⟨⟨_,rfl⟩,_,_,pv,ovk,HFE.out,HWK.out,fun _ h=>.inl h,HPV.out,?_,fun h e=>?_,Nat.le_add_right _ _,?_⟩
    ·rw[HRD.out];cases ls.any bFp <;> rfl
    ·rw[HRD.out] at e;split at e
     ·cases e
     ·exact Option.some.inj e
    ·show (g.options++ls.map bF4).length<=_;rw[List.length_append,List.length_map,HLS.out];omega
 ·have HF1:=Hd (HF.out.mark hw hk);have HW1:Hid (aZf (Tch br bf pv ov) W W1):=hw.weaken (fun k e=>.inl e);have HNO:Hid (bCi g 11 s=none):=by
   show _=_;rw[HRF.out];obtain⟨l,hl1,hl2⟩:∃l,l∈ls/\l.length≠4:=by
    apply Classical.byContradiction;intro h;exact hall fun l hl'=>Classical.byContradiction fun h'=>h ⟨l,hl',h'⟩
   rw[bIg hl1 (bLu hl2)];rfl
  clear hw hk hall;go_wp2_with fail;go_loopw [144] (fun iv wr=>iv=.int .i64 0/\Hid (wr=W1)) (fun _ _=>0)
  case atStart=>exact⟨rfl,rfl⟩
  case round =>
   obtain⟨rfl,HWR⟩:=hrel;go_wp2;exact bodyPost_ret (v:=.tuple #[]) (by simp[results,results129,go_sem]) rfl ⟨⟨_,rfl⟩,true,g,pv,ov,by rw[HWR.out];exact HF1.out,by rw[HWR.out];exact HW1.out,fun _ h=>.inl h,fun _ h=>.inl h,by rw[HNO.out];simp,fun h e=>(by rw[HNO.out] at e;cases e),Nat.le_add_right _ _,Nat.le_add_right _ _⟩
end
end Go.Proofs.YthjekgfoidmagaaGreatDoor
