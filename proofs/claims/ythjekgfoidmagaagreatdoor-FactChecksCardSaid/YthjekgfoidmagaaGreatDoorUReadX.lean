/- Slice13 Read13 Decode13 -/
import Derived.Test.YthjekgfoidmagaaGreatDoorUReadR
set_option maxHeartbeats 16000000
set_option maxRecDepth 100000
namespace Go.Proofs.YthjekgfoidmagaaGreatDoor
open Go.Proofs.Tryz
section
open Go Go.RowKit Num
theorem bF1{F:Fence}{n:Nat}{ops:Array Oper}{Q:Exit->Act->World->Prop}{a:Act}{w:World}{rest:List Oper}{o:Oper}(hgd:Region.wanted o (yielded ops a.tmps)=true)(s k:Nat)(ho:o.op=.slice 36 (.tmp s) (some (.const (.int .i64 (k:Int)))) none none)(b off m:Nat)(hs:a.eval (.tmp s)=.slice (some ⟨b,off,none⟩) m m)(hk:k<=m)
  (h:∀off',(k<m->off'=off+k)->wpListIn F n prog ops Q rest (a.put o.dst (.slice (some ⟨b,off',none⟩) (m-k) (m-k))) w):wpListIn F n prog ops Q (o::rest) a w:=by
 have hs':a.tmps[s]?.getD undef=.slice (some ⟨b,off,none⟩) m m:=by simpa[Act.eval] using hs
 obtain⟨off',hoff,hrun⟩:∃off',(k<m->off'=off+k)/\(execOp a.eval o).run prog w=.ok (.value (.slice (some ⟨b,off',none⟩) (m-k) (m-k))) w:=by
  by_cases hkm:m=k
  ·refine⟨off,fun h=>absurd h (by omega),?_⟩;subst hkm;simp[execOp,ho,hs',Instr.slice,Instr.sliceBounds,Instr.sliceBound,asIntOf,go_sem]
  ·refine⟨off+k,fun _=>rfl,?_⟩;simp[execOp,ho,hs',Instr.slice,Instr.sliceBounds,Instr.sliceBound,asIntOf,hkm,go_sem];omega
 refine wpListIn_step fun K hK=>?_
 rw[if_pos hgd];refine⟨fun f hf=>(by unfold Oper.about at hf;rw[ho] at hf;cases hf),?_⟩;rw[Oper.semAt_plain F _ _ (by rw[ho];intro c hc;cases hc),hrun];exact hK _ _ (h off' hoff)
theorem bKc{c:Code}{F:Fence}{n:Nat}{P:Program}{Q:Exit->Act->World->Prop}{T:Array Value}{ds:List Deferred}{w:World}(h:∀T',T'=T->c.wpIn F n P Q { tmps:=T',defers:=ds } w):c.wpIn F n P Q { tmps:=T,defers:=ds } w:=h T rfl
theorem bKm(hs:List Bool)(k:Nat):(bDq hs k).length<=(bDq hs (k+1)).length:=by
 show _<=(bDq hs k++_).length;rw[List.length_append];omega
theorem bKn(hs:List Bool){j:Nat}:∀ {k:Nat},j<=k->(bDq hs j).length<=(bDq hs k).length:=by
 intro k h
 induction k with
 |zero =>
  obtain rfl:j=0:=by omega
  exact Nl _
 |succ k ih =>
  by_cases e:j=k+1
  ·rw[e];exact Nl _
  ·exact Nat.le_trans (ih (by omega)) (bKm hs k)
theorem RSt.rest{W w0:World}{br bf b2 rc bw b10:Nat}{ws:List (List UInt8)}{bad:Bool}{g:aE}{pv ov u v:Value}(h:RSt W w0 br bf b2 rc bw ws bad g pv ov)(hb:aP W b10 #[u] 36)(hl:w0.heap.size<=b10):RSt (W.setCell ⟨b10,0,none⟩ v) w0 br bf b2 rc bw ws bad g pv ov:=by
 have hn:=h.F.not_box hb (by decide) (by decide) (by decide) (by decide);refine h.wrote (S:=fun k=>k=b10) (aZf.set _ _ _ rfl) (fun k hk e=>hn (e ▸ hk)) (bDt h.k2 hb (by decide)) (bDt h.kc hb (by decide)) (bDt h.kw hb (by decide)) (fun k e=>by subst e;exact hl)
theorem bIy(o0:Option aE)(is:List Nat)(ss:List (List UInt8))(i:Nat)(s:List UInt8)(h:is.length=ss.length):(o0.bind fun g=>bDk g (is ++ [i]) (ss ++ [s]))=(o0.bind fun g=>bDk g is ss).bind fun g=>bCi g i s:=by
 cases o0 with
 |none=>rfl
 |some g=>exact bGd is ss g i s h
theorem bFw.next{W W3 w0:World}{br bf b2 rc bw b10 off off2 m:Nat}{ws:List (List UInt8)}{o0:Option aE}{more:List (List UInt8)}{pre:List (Fin 13)}{x:Fin 13}{s:List UInt8}{bad bad':Bool}{g g':aE}{pv ov pv' ov':Value}{v:Value}
  (hR:RSt W w0 br bf b2 rc bw ws bad g pv ov) (hb10:aP W b10 #[.slice (some ⟨bw,off,none⟩) (m+1) (m+1)] 36) (hm:m+1=more.length-pre.length) (hoff:off=4+pre.length) (hs:more[pre.length]?=some s) (hl:w0.heap.size<=b10)
  (hS:bJp (o0.bind fun g=>bDk g (pre.map (·.val)) (more.take pre.length)) bad g) (h1:g.picks.length<=pre.length*65537) (h2:g.options.length<=pre.length*65537)
  (hF':FSt W3 w0.heap.size br bf bad' g' pv' ov') (hw:aZf (Tch br bf pv ov) W W3) (e1:bad'=(bad || (bCi g x.val s).isNone)) (e2:∀h,bCi g x.val s=some h->g'=h) (e3:g'.picks.length<=g.picks.length+65537) (e4:g'.options.length<=g.options.length+65537)
  (hoff2:1<m+1->off2=off+1) (hv:v=.slice (some ⟨bw,off2,none⟩) (m+1-1) (m+1-1)) :
  bFw w0 br bf b2 rc bw b10 ws o0 more (pre ++ [x]) (W3.setCell ⟨b10,0,none⟩ v):=by
 have hR3:=hR.step hF' hw;have hb3:=hw.box hb10 (hR.F.not_box hb10 (by decide) (by decide) (by decide) (by decide));have hlt:pre.length<more.length:=(Li.1 hs).1;refine⟨bad',g',pv',ov',off2,hR3.rest hb3 hl,?_,?_,?_,?_,?_,?_⟩
 ·have e:more.length-(pre ++ [x]).length=m+1-1:=by rw[List.length_append,List.length_singleton];omega
  rw[e,hv];exact bEq hb3
 ·intro h;rw[List.length_append,List.length_singleton] at h ⊢;rw[hoff2 (by omega),hoff];omega
 ·rw[List.length_append,List.length_singleton];omega
 ·rw[List.map_append,List.length_append,List.length_singleton,List.take_add_one,hs];show bJp (o0.bind fun g=>bDk g (pre.map (·.val) ++ [x.val]) (more.take pre.length ++ [s])) bad' g';rw[bIy _ _ _ _ _ (by rw[List.length_map,List.length_take];omega)];exact hS.step e1 e2
 ·rw[List.length_append,List.length_singleton];omega
 ·rw[List.length_append,List.length_singleton];omega
end
section
open Go Go.RowKit Go.Shelf Num
attribute [local go_sem] Oper.semAt_some
theorem bLg{ws:List (List UInt8)}(h:ws.length<3):bEi ws=none:=by
 match ws,h with
 | [],_=>rfl
 | [_],_=>rfl
 | [_,_],_=>rfl
theorem bJr(W:World)(k:Nat):W.grownBy (W.drewN k) none:=by
 refine⟨?_,?_,?_,?_,fun i hi _=>?_⟩
 all_goals first|rfl|exact Nl _
def bO6(w0:World)(br rc:Nat)(ws:List (List UInt8))(e:Ending)(W':World):Prop :=
 ∃bad g pv ov,e=.returned (.agg (g.cellsW pv ov))/\bN6 W' w0 br rc bad g pv ov/\bJp (bEi ws) bad g
theorem bLx(ws:List (List UInt8))(hws:∀s,s∈ws->s.length<=65536)(hm:ws.length<=100000)(br bw:Nat)(w w0:World)(hE0:iE w0)(hw0:Below w0.heap.size w0 w)(hbr:w0.heap.size<=br)(kr:aP w br #[.bool false] 96)(kw:aP w bw (bDf ws).toArray 9):
  Calls prog 65 #[.pointer (some ⟨br,0,none⟩),.slice (some ⟨bw,0,none⟩) ws.length ws.length] w (bO6 w0 br (w.heap.size+1) ws):=by
 have HB0:=Hd hw0;have HE:=Hd (fun W (h:Below w0.heap.size w0 W)=>hE0.below h);have HWS:=Hd hws;have HL:Hid (w0.heap.size<=br/\br<w.heap.size/\bw<w.heap.size/\w0.heap.size<=w.heap.size):=⟨hbr,kr.1,kw.1,hw0.size⟩
 obtain⟨wA,hwA⟩:∃wA,wA=w.alloc (.cells #[.pointer (some ⟨br,0,none⟩)] 147):=⟨_,rfl⟩
 obtain⟨wB,hwB⟩:∃wB,wB=wA.alloc (.cells #[.string ⟨#[]⟩,.int .i64 0,.bool false,.int .i64 0,.int .i64 0,.string ⟨#[]⟩,.string ⟨#[]⟩,.string ⟨#[]⟩,.string ⟨#[]⟩,.string ⟨#[]⟩,.string ⟨#[]⟩,.string ⟨#[]⟩,.string ⟨#[]⟩,.string ⟨#[]⟩,.string ⟨#[]⟩,.string ⟨#[]⟩,.string ⟨#[]⟩,.string ⟨#[]⟩,.slice none 0 0,.slice none 0 0,.int .i64 0] 29):=⟨_,rfl⟩
 obtain⟨wC,hwC⟩:∃wC,wC=wB.alloc (.cells #[.string ⟨#[]⟩,.int .i64 0,.bool false,.int .i64 0,.int .i64 0,.string ⟨#[]⟩,.string ⟨#[]⟩,.string ⟨#[]⟩,.string ⟨#[]⟩,.string ⟨#[]⟩,.string ⟨#[]⟩,.string ⟨#[]⟩,.string ⟨#[]⟩,.string ⟨#[]⟩,.string ⟨#[]⟩,.string ⟨#[]⟩,.string ⟨#[]⟩,.string ⟨#[]⟩,.slice none 0 0,.slice none 0 0,.int .i64 0] 29):=⟨_,rfl⟩
 have sA:wA.heap.size=w.heap.size+1:=by rw[hwA,World.size_alloc]
 have sB:wB.heap.size=w.heap.size+1+1:=by rw[hwB,World.size_alloc,sA]
 have sC:wC.heap.size=w.heap.size+1+1+1:=by rw[hwC,World.size_alloc,sB]
 have bA:Below w.heap.size w wA:=by rw[hwA];exact aB _ _
 have bB:Below wA.heap.size wA wB:=by rw[hwB];exact aB _ _
 have bC:Below wB.heap.size wB wC:=by rw[hwC];exact aB _ _
 have kA:aP wA w.heap.size #[.pointer (some ⟨br,0,none⟩)] 147:=by rw[hwA];exact aP.new0 _ _ _
 have kB:aP wB (w.heap.size+1) (bDh.cellsW bBy bBy) 29:=by rw[hwB,<-sA];exact aP.new0 _ _ _
 have kC:aP wC (w.heap.size+1+1) (bDh.cellsW bBy bBy) 29:=by rw[hwC,<-sB];exact aP.new0 _ _ _
 have bAC:=aA (aA bA bB) bC;have HSC:=Hd sC;have HR:Hid (RSt wC w0 br (w.heap.size+1+1) w.heap.size (w.heap.size+1) bw ws false bDh bBy bBy):=by
  refine⟨⟨kr.below bAC,kC,⟨rfl,.inl ⟨rfl,rfl⟩⟩,⟨rfl,.inl ⟨rfl,rfl⟩⟩⟩,kA.below (aA bB bC),kB.below bC,kw.below bAC,hw0.trans (bAC.mono hw0.size),hbr,?_,by omega⟩;have:=hw0.size;omega
 have HFZ:Hid ((prog.info? 29).map (·.size)=some (bDh.cellsW bBy bBy).size):=bD0;have HO1:Hid ((bDh.cellsW bBy bBy).all (·.oneCell')=true):=bD1 rfl rfl;have HRC:Hid (w0.heap.size<=w.heap.size+1):=by have:=hw0.size;show _<=_;omega
 clear hE0 hw0 hbr kr kw hws sA sB sC bA bB bC kA kB kC bAC;refine(callsIn_wide (n:=6)).1 ?_;refine callsIn_of_wp_marks func65 rfl trivial ?_ rfl;simp only[ntmps65,List.size_toArray,List.length_cons,List.length_nil,Nat.reduceAdd,Nat.reduceSub,Array.replicate_succ,Array.replicate_zero,List.push_toArray,List.append_toArray,List.nil_append,List.cons_append]
 by_cases h3:ws.length<3
 ·subst hwC hwB hwA;have HS:=Hd (HR.out.marked true);have k2:=HR.out.k2.cell 0;have cr:=HR.out.F.kr.cell 0;have fr:=aR HR.out.F.kr.2 0;have HD:=Hd (bLg h3);gi_wp2_with (first|(refine eP (by rfl) 29 _ rfl (w.heap.size+1+1) rfl _ _ HS.out.F.kf underlying29 rfl HFZ.out ?_)|(refine bQ (by rfl) 29 _ _ rfl (w.heap.size+1) rfl (bDh.cellsW bBy bBy) rfl HS.out.kc.2 HFZ.out rfl HO1.out ?_;intro w4 kx bx ko Rt gr;have GX:=Hd (HS.out.fin kx gr HRC.out);have KX:=Hd kx;clear kx bx ko Rt gr));refine⟨_,results_cell_row results65 _ _ (w.heap.size+1) 29 (bDh.cellsW bBy bBy) (0,0) _ rfl KX.out.2 underlying29 rfl HFZ.out,?_⟩;exact⟨true,bDh,bBy,bBy,rfl,GX.out,by rw[HD.out];rfl,fun h e=>by rw[HD.out] at e;cases e⟩
 ·obtain⟨x0,x1,x2,rest,hwe⟩:∃x0 x1 x2 rest,ws=x0::x1::x2::rest:=by
   match ws,h3 with
   |x0::x1::x2::rest,_=>exact⟨x0,x1,x2,rest,rfl⟩
   | [],h=>exact absurd (by decide) h
   | [_],h=>exact absurd (by simp) h
   | [_,_],h=>exact absurd (by simp) h
  have HWE:=Hd hwe;have HX1:Hid (x1.length<=65536):=HWS.out x1 (by rw[hwe];simp);have HX2:Hid (x2.length<=65536):=HWS.out x2 (by rw[hwe];simp);have HX:Hid (∀W:World,aP W bw (bDf ws).toArray 9->W.cell? ⟨bw,0,none⟩=some (.string ⟨x0.toArray⟩)/\W.cell? ⟨bw,1,none⟩=some (.string ⟨x1.toArray⟩)/\W.cell? ⟨bw,2,none⟩=some (.string ⟨x2.toArray⟩)):=fun W h=>⟨(h.cell 0).trans (by rw[hwe];rfl),(h.cell 1).trans (by rw[hwe];rfl),(h.cell 2).trans (by rw[hwe];rfl)⟩
  clear hwe;gi_wp2_with fail;rw[<-hwA,<-hwB,<-hwC];clear hwA hwB hwC;have hR1:=HR.out.below (aD (Br wC.heap.size wC) 1);refine bNn (ro:=none) (C:=⟨wC.drewN 1,br,w.heap.size,w.heap.size+1+1,bw,ws.length,false,false || (bD7 x1).isNone,bDh.cellsW bBy bBy,x0,x1⟩) ⟨rfl,rfl,rfl,rfl,by show 3<=ws.length;omega,hR1.F.kr,hR1.k2,hR1.F.kf,rfl,rfl,(HX.out _ hR1.kw).1,(HX.out _ hR1.kw).2.1,hR1.kw.1,bDt hR1.kw hR1.F.kr (by decide),fun W hW hB=>(bHk br false x1 W (HE.out W ((hR1.step (hR1.F.mark hW hB) (hW.weaken fun k h=>.inl h)).be)) hB HX1.out).mono fun e w' h=>?_⟩ rfl rfl rfl ?_
  ·obtain⟨nn,h1,h2,h3⟩:=h;exact⟨nn,h1,h2.wrote.1,h2.wrote.2,h3⟩
  rintro⟨nn,V2⟩ ⟨q1,q2,q3⟩;have hR2:=(((hR1.step (hR1.F.mark q1 q2) (q1.weaken fun k h=>.inl h)).setF (g':={ bDh with key:=x0 }) 0 (.string ⟨x0.toArray⟩) rfl rfl rfl).setF (g':={ bDh with key:=x0,stamp:=nn }) 1 (.int .i64 nn) rfl rfl rfl)
  have HN:Hid (∀v,bD7 x1=some v->nn=v):=q3;simp only[iZ,bPf,List.foldl,List.setIfInBounds_toArray,List.set_cons_zero,List.set_cons_succ,R5C.val];obtain⟨W2,hW2⟩:∃W2,W2=(V2.setCell ⟨w.heap.size+1+1,0,none⟩ (.string ⟨x0.toArray⟩)).setCell ⟨w.heap.size+1+1,1,none⟩ (.int .i64 nn):=⟨_,rfl⟩
  rw[<-hW2] at hR2 ⊢;have HR2:=Hd hR2;clear hR1 q1 q2 q3 hR2 hW2 HX1 HR;obtain⟨bad1,hbad1⟩:∃b,b=(false || (bD7 x1).isNone):=⟨_,rfl⟩
  obtain⟨g1,hg1⟩:∃g,g = { bDh with key:=x0,stamp:=nn }:=⟨_,rfl⟩
  rw[<-hbad1,<-hg1] at HR2;have HF1:Hid ((prog.info? 29).map (·.size)=some (g1.cellsW bBy bBy).size):=bD0;have HO2:Hid ((g1.cellsW bBy bBy).all (·.oneCell')=true):=bD1 rfl rfl;have c2:=(HX.out _ HR2.out.kw).2.2;gi_wp2_with fail
  ·have hv:(x2 == [118,111,105,100])=true:=by assumption
   have hR:=HR2.out.below (aD (Br W2.heap.size W2) 1);refine bNm (ro:=none) (C:=⟨W2.drewN 1,br,w.heap.size,bad1,some ⟨bw,0,none⟩,ws.length,ws.length⟩) ⟨rfl,rfl,hR.F.kr,hR.k2,rfl⟩ rfl rfl rfl ?_;simp only[iZ,bPe,List.foldl,List.setIfInBounds_toArray,List.set_cons_zero,List.set_cons_succ,R7C.val];have hR4:=hR.marked (bad1 || ((ws.length:Int) != 3));obtain⟨W4,hW4⟩:∃W4,W4=(W2.drewN 1).setCell ⟨br,0,none⟩ (.bool (bad1 || ((ws.length:Int) != 3))):=⟨_,rfl⟩
   rw[show R7C.ln ⟨W2.drewN 1,br,w.heap.size,bad1,some ⟨bw,0,none⟩,ws.length,ws.length⟩=((ws.length:Int) != 3) from rfl];rw[<-hW4] at hR4 ⊢;have HR4:=Hd hR4;have HS:=Hd (hR4.setF (g':={ g1 with cancelled:=true }) 2 (.bool true) rfl rfl rfl);have k2:=hR4.F.kf.cell 2;have f2:=aR hR4.F.kf.2 2;have HF3:Hid ((prog.info? 29).map (·.size)=some (({ g1 with cancelled:=true }:aE).cellsW bBy bBy).size):=bD0;have HO3:Hid ((({ g1 with cancelled:=true }:aE).cellsW bBy bBy).all (·.oneCell')=true):=bD1 rfl rfl;clear hR hR4 hW4 HR2;gi_wp2_with (first|(refine eP (by rfl) 29 _ rfl (w.heap.size+1+1) rfl _ _ HS.out.F.kf underlying29 rfl HF3.out ?_)|(refine bQ (by rfl) 29 _ _ rfl (w.heap.size+1) rfl (({ g1 with cancelled:=true }:aE).cellsW bBy bBy) rfl HS.out.kc.2 HF3.out rfl HO3.out ?_;intro w4 kx bx ko Rt gr;have GX:=Hd (HS.out.fin kx gr HRC.out);have KX:=Hd kx;clear kx bx ko Rt gr));refine⟨_,results_cell_row results65 _ _ (w.heap.size+1) 29 (({ g1 with cancelled:=true }:aE).cellsW bBy bBy) (0,0) _ rfl KX.out.2 underlying29 rfl HF3.out,?_⟩;refine⟨_,_,bBy,bBy,rfl,GX.out,?_⟩;obtain rfl:x2=bFg:=by simpa[bFg] using hv
   rw[HWE.out,hbad1,hg1];unfold bEi;simp only[if_true];have hl:((((x0::x1::bFg::rest).length:Nat):Int) != 3) = !(rest == []):=by
    cases rest with
    |nil=>rfl
    |cons a t=>simp;omega
   rw[hl];cases hn:bD7 x1 with
   |none=>exact⟨by simp,fun h e=>by cases e⟩
   |some v =>
    obtain rfl:=HN.out v hn;cases rest with
    |nil=>exact⟨by simp,fun h e=>by simpa using e⟩
    |cons a t=>exact⟨by simp,fun h e=>by simp at e⟩
  ·have hv:(x2 == [118,111,105,100])=false:=by assumption
   refine⟨trivial,(callsIn_wide.2 (bMw x2 W2)).mono ?_⟩;rintro e W3 ⟨⟨r,rfl,hr0⟩,hb3⟩;have HR3:=Hd (HR2.out.below hb3);clear hb3 c2 HR2;cases hd:bEc x2 with
   |none =>
    have HD:Hid (bEi ws=none):=by
     show _=_;rw[HWE.out];unfold bEi;have hne:¬ x2=bFg:=fun e=>by rw[e] at hv;cases hv
     simp only[hne,if_false,hd];cases bD7 x1 <;> rfl
    have HS:=Hd (HR3.out.marked true);have k2:=HR3.out.k2.cell 0;have cr:=HR3.out.F.kr.cell 0;have fr:=aR HR3.out.F.kr.2 0;clear HWE HX HN;rw[show bI9 none r=.tuple #[.int .i64 0,.int .i64 r] from rfl];gi_wp2_with (first|(refine eP (by rfl) 29 _ rfl (w.heap.size+1+1) rfl _ _ HS.out.F.kf underlying29 rfl HF1.out ?_)|(refine bQ (by rfl) 29 _ _ rfl (w.heap.size+1) rfl (g1.cellsW bBy bBy) rfl HS.out.kc.2 HF1.out rfl HO2.out ?_;intro w4 kx bx ko Rt gr;have GX:=Hd (HS.out.fin kx gr HRC.out);have KX:=Hd kx;clear kx bx ko Rt gr));refine⟨_,results_cell_row results65 _ _ (w.heap.size+1) 29 (g1.cellsW bBy bBy) (0,0) _ rfl KX.out.2 underlying29 rfl HF1.out,?_⟩;exact⟨true,g1,bBy,bBy,rfl,GX.out,by rw[HD.out];rfl,fun h e=>by rw[HD.out] at e;cases e⟩
   |some d =>
    rw[show bI9 (some d) r=.tuple #[.int .i64 d,.int .i64 0] from rfl]
    by_cases h4:ws.length<4
    ·have HD:Hid (bEi ws=none):=by
      show _=_;have hl:=HWE.out;rw[hl] at h4 ⊢;unfold bEi;have hne:¬ x2=bFg:=fun e=>by rw[e] at hv;cases hv
      simp only[hne,if_false,hd];cases rest with
      |nil=>cases bD7 x1 <;> rfl
      |cons a t=>exact absurd h4 (by simp)
     have HS:=Hd (HR3.out.marked true);have k2:=HR3.out.k2.cell 0;have cr:=HR3.out.F.kr.cell 0;have fr:=aR HR3.out.F.kr.2 0;clear HWE HX HN;gi_wp2_with (first|(refine eP (by rfl) 29 _ rfl (w.heap.size+1+1) rfl _ _ HS.out.F.kf underlying29 rfl HF1.out ?_)|(refine bQ (by rfl) 29 _ _ rfl (w.heap.size+1) rfl (g1.cellsW bBy bBy) rfl HS.out.kc.2 HF1.out rfl HO2.out ?_;intro w4 kx bx ko Rt gr;have GX:=Hd (HS.out.fin kx gr HRC.out);have KX:=Hd kx;clear kx bx ko Rt gr));refine⟨_,results_cell_row results65 _ _ (w.heap.size+1) 29 (g1.cellsW bBy bBy) (0,0) _ rfl KX.out.2 underlying29 rfl HF1.out,?_⟩;exact⟨true,g1,bBy,bBy,rfl,GX.out,by rw[HD.out];rfl,fun h e=>by rw[HD.out] at e;cases e⟩
    ·obtain⟨x3,more,hrest⟩:∃x3 more,rest=x3::more:=by
      have hl:=HWE.out;cases rest with
      |nil=>rw[hl] at h4;exact absurd (by simp) h4
      |cons a t=>exact⟨a,t,rfl⟩
     have HW2:Hid (ws=x0::x1::x2::x3::more):=by show _=_;rw[HWE.out,hrest]
     have HDR:Hid (bEi ws=(bD7 x1).bind fun n=>match aX.find? (fun p=>p.2.word==x3) with|some p=>bDk { bDh with key:=x0,stamp:=n,day:=d,kind:=p.1 } p.2.fields more|none=>none):=by
      show _=_;rw[HW2.out];unfold bEi;have hne:¬ x2=bFg:=fun e=>by rw[e] at hv;cases hv
      simp only[hne,if_false,hd];rfl
     have HXW:Hid (∀W:World,aP W bw (bDf ws).toArray 9->W.cell? ⟨bw,3,none⟩=some (.string ⟨x3.toArray⟩)/\∀(j:Nat) (s:List UInt8),more[j]?=some s->W.cell? ⟨bw,4+j,none⟩=some (.string ⟨s.toArray⟩)):=fun W h=>⟨(h.cell 3).trans (by rw[HW2.out];rfl),fun j s hs=>(h.cell (4+j)).trans (by rw[HW2.out,Nat.add_comm];simp[bDf,hs])⟩
     have k3:=HR3.out.F.kf.cell 3;have f3:=aR HR3.out.F.kf.2 3;obtain⟨g2,hg2⟩:∃g,g = { g1 with day:=d }:=⟨_,rfl⟩
     have hR4:=HR3.out.setF (g':=g2) 3 (.int .i64 d) (by rw[hg2];rfl) (by rw[hg2]) (by rw[hg2]);have HG2:Hid (g2 = { bDh with key:=x0,stamp:=nn,day:=d }):=by show _=_;rw[hg2,hg1]
     clear hg2 hg1 hrest HWE HX;gi_wp2_with fail;obtain⟨W4,hW4⟩:∃W4,W4=W3.setCell ⟨w.heap.size+1+1,3,none⟩ (.int .i64 d):=⟨_,rfl⟩
     rw[<-hW4] at hR4 ⊢;clear hW4 k3 f3 HR3 HF1 HO2;refine⟨trivial,(callsIn_wide.2 (Cq W4)).mono ?_⟩;rintro e W5 ⟨bm,rfl,⟨kvs,⟨hAt,nk,D,_,_,hown⟩,hk1,hk2⟩,hb5⟩;have HR5:=Hd (hR4.below hb5);have HAT:=Hd hAt;have HOWN:=Hd hown;have HK1:=Hd hk1;have HHAS:Hid (∀q,q∈aX->Maps.has D (.int .i64 q.1)=true):=fun q hq=>by
      obtain⟨p,hp,e⟩:=hk2 q hq;exact(Yt hAt hown q.1).2 ⟨p.2,by rw[<-e];exact hp⟩
     clear hAt hown hk1 hk2 hb5 hR4;gi_wp2_with (gi_at_range;refine wpListIn_range_own _ rfl _ 64 rfl 3 62 zR underlying64 Ca bm nk D rfl HOWN.out ?_;intro W6 hrg0 hg0 hs0);have HRG0:=Hd hrg0;have HB6:Hid (Below W5.heap.size W5 W6):=(Br W5.heap.size W5).grown hg0 (Nl _) (fun k e=>by cases e);have HS6:=Hd hs0;clear hrg0 hg0 hs0;go_frame;gi_loopw [8] (fun _ wr=>∃(left:Lit->Bool) (cnt:Nat),Hid (wr.ranges prog 3 Ca bm W5.heap.size nk D left cnt)/\Hid (∀q,q∈aX->left (.int .i64 q.1)=false->q.2.word≠x3)/\Hid (Below W5.heap.size W5 wr)/\Hid (W5.heap.size+1<=wr.heap.size)) (fun _ wr=>wr.rangeLeft bm W5.heap.size)
     case atStart =>
      have HN0:Hid (∀q,q∈aX->Maps.has D (.int .i64 q.1)=false->q.2.word≠x3):=fun q hq h=>by rw[HHAS.out q hq] at h;cases h
      have HS0:Hid (W5.heap.size+1<=W6.heap.size):=by rw[HS6.out];exact Nl _
      exact⟨_,_,HRG0,HN0,HB6,HS0⟩
     case round =>
      clear HRG0 HB6 HS6;obtain⟨left,cnt,HRG,HNO,HBB,HSZ⟩:=hrel;gi_wp2_with (gi_at_next;refine wpListIn_next_ranges _ rfl _ rfl 3 zR Ca (Value.int .i64) (fun v=>v) Yq aAb bm W5.heap.size nk D left cnt rfl HRG.out ?_ ?_)
      ·intro hc0 hl0;have HD:Hid (bEi ws=none):=by
        have hf:aX.find? (fun p=>p.2.word==x3)=none:=by
         rw[List.find?_eq_none];intro p hp;have:=HNO.out p hp (hl0 _);simpa using this
        show _=_;rw[HDR.out,hf];cases bD7 x1 <;> rfl
       have HRR:=Hd (HR5.out.below HBB.out);have HF2:Hid ((prog.info? 29).map (·.size)=some (g2.cellsW bBy bBy).size):=bD0;have HO2:Hid ((g2.cellsW bBy bBy).all (·.oneCell')=true):=bD1 rfl rfl;have HS:=Hd (HRR.out.marked true);have k2:=HRR.out.k2.cell 0;have cr:=HRR.out.F.kr.cell 0;have fr:=aR HRR.out.F.kr.2 0;clear HRG HNO HBB HSZ hc0 hl0 HXW HDR HW2 HN HAT HOWN HK1 HHAS HR5 HRR;gi_wp2_with (first|(refine eP (by rfl) 29 _ rfl (w.heap.size+1+1) rfl _ _ HS.out.F.kf underlying29 rfl HF2.out ?_)|(refine bQ (by rfl) 29 _ _ rfl (w.heap.size+1) rfl (g2.cellsW bBy bBy) rfl HS.out.kc.2 HF2.out rfl HO2.out ?_;intro w4 kx bx ko Rt gr;have GX:=Hd (HS.out.fin kx gr HRC.out);have KX:=Hd kx;clear kx bx ko Rt gr));refine⟨_,results_cell_row results65 _ _ (w.heap.size+1) 29 (g2.cellsW bBy bBy) (0,0) _ rfl KX.out.2 underlying29 rfl HF2.out,?_⟩;exact⟨true,g2,bBy,bBy,rfl,GX.out,by rw[HD.out];rfl,fun h e=>by rw[HD.out] at e;cases e⟩
      ·intro x c kl y y2 w1 cnt1 hkey hlk hR hat hrg1 hlt hg1 hs1 hen;obtain⟨x',ex,ekl,_⟩:=Maps.keyOf_int_inv underlying3 hkey;obtain rfl:x=x':=(Value.int.inj ex).2;subst ekl;have hb1:Below W5.heap.size W5 w1:=HBB.out.grown hg1 HBB.out.size (fun k e=>by cases e;exact Nl _);obtain⟨q,hq,e1,mv,e2,_⟩:=HK1.out _ (bKp (HAT.out.below hb1) hrg1 hen);dsimp only at e1 e2;subst e1 e2;have HQ:=Hd hq;have HSK:Hid ((prog.info? 62).map (·.size)=some (aK q.2.word q.2.cls q.2.has (.map mv) q.2.code).size):=by show _=_;rw[Cr];exact oJ
       have HKO:Hid ((aK q.2.word q.2.cls q.2.has (.map mv) q.2.code).all (·.oneCell')=true):=mU;have HSZ2:Hid ((#[.string ⟨#[]⟩,.int .i64 0,.bool false,.bool false,.bool false,.bool false,.bool false,.bool false,.bool false,.bool false,.bool false,.bool false,.bool false,.bool false,.bool false,.map none,.bool false]:Array Value).size=(aK q.2.word q.2.cls q.2.has (.map mv) q.2.code).size):=by show _=_;rw[Cr];rfl
       have HZK:Hid ((w1.alloc (.cells #[.string ⟨#[]⟩,.int .i64 0,.bool false,.bool false,.bool false,.bool false,.bool false,.bool false,.bool false,.bool false,.bool false,.bool false,.bool false,.bool false,.bool false,.map none,.bool false] 62)).heap[w1.heap.size]?=some (.cells #[.string ⟨#[]⟩,.int .i64 0,.bool false,.bool false,.bool false,.bool false,.bool false,.bool false,.bool false,.bool false,.bool false,.bool false,.bool false,.bool false,.bool false,.map none,.bool false] 62 (0,0))):=heap_alloc_new _ _;have HB1:=Hd hb1;have HRG1:=Hd hrg1;have HLT:=Hd hlt;have HS1:Hid (W5.heap.size+1<=w1.heap.size/\bm<W5.heap.size):=⟨by have:=HSZ.out;omega,HOWN.out.lt⟩
       clear hkey hlk hR hat hrg1 hlt hg1 hs1 hq hb1 ex HBB HSZ HK1;gi_wp2_with (refine bQ (by rfl) 62 _ _ rfl w1.heap.size rfl (aK q.2.word q.2.cls q.2.has (.map mv) q.2.code) rfl HZK.out HSK.out HSZ2.out HKO.out ?_;intro w4 kx bx ko Rt gr);go_frame;have hba:Below w1.heap.size w1 w4:=(aB w1 (.cells #[.string ⟨#[]⟩,.int .i64 0,.bool false,.bool false,.bool false,.bool false,.bool false,.bool false,.bool false,.bool false,.bool false,.bool false,.bool false,.bool false,.bool false,.map none,.bool false] 62)).trans (bx _ (Nl _));have HB4:Hid (Below W5.heap.size W5 w4):=HB1.out.trans (hba.mono HB1.out.size);have hrg4:=((HRG1.out.kept (World.grownBy_alloc w1 (.cells #[.string ⟨#[]⟩,.int .i64 0,.bool false,.bool false,.bool false,.bool false,.bool false,.bool false,.bool false,.bool false,.bool false,.bool false,.bool false,.bool false,.bool false,.map none,.bool false] 62) none) (by intro e;cases e) (by intro e;cases e)).kept gr (by intro e;injection e with e;have:=HS1.out;omega) (by intro e;injection e with e;have:=HS1.out;omega))
       have HRG4:Hid ((w4.drewN 1).ranges prog 3 Ca bm W5.heap.size nk D (fun z=>left z && !z.sameKey (.int .i64 q.1)) cnt1):=hrg4.kept (row:=none) (bJr w4 1) (by intro e;cases e) (by intro e;cases e);have KK:=kx.below (aD (Br w4.heap.size w4) 1);have HKK:=Hd KK;have HB5:Hid (Below W5.heap.size W5 (w4.drewN 1)):=aD HB4.out 1;have HR6:=Hd (HR5.out.below HB5.out);have HS4:Hid (W5.heap.size+1<=(w4.drewN 1).heap.size):=by have h1:=HS1.out.1;have h2:=hba.size;show _<=w4.heap.size;omega
       have HM:Hid (World.rangeLeft (w4.drewN 1) bm W5.heap.size<wr.rangeLeft bm W5.heap.size):=by
        show _<_;rw[HRG4.out.left_eq,HRG.out.left_eq];exact HLT.out
       have hk0:(w4.drewN 1).cell? ⟨w1.heap.size,0,none⟩=some (.string ⟨q.2.word.toArray⟩):=by rw[KK.cell 0];simp[aK]
       refine bL1 (ro:=none) (C:=⟨w4.drewN 1,w1.heap.size,bw,ws.length,q.2.word,x3⟩) ⟨rfl,rfl,rfl,by show 4<=ws.length;omega,hk0,(HXW.out _ HR6.out.kw).1⟩ rfl rfl rfl ?_;simp only[iZ,bM5,List.foldl,List.setIfInBounds_toArray,List.set_cons_zero,List.set_cons_succ,bMs.val];obtain⟨W7,hW7⟩:∃W7,W7=w4.drewN 1:=⟨_,rfl⟩
       rw[<-hW7] at HRG4 HKK HB5 HR6 HS4 HM ⊢;clear kx bx ko Rt gr hba hrg4 KK hk0 hW7 HZK HSZ2 HKO HRG1 HLT HB1 HRG HB4;cases hwd:(q.2.word==x3) with
       |false =>
        have HNO2:Hid (∀p,p∈aX->(left (.int .i64 p.1) && !(Lit.int .i64 p.1).sameKey (.int .i64 q.1))=false->p.2.word≠x3):=fun p hp h=>by
         by_cases hpq:p.1=q.1
         ·rw[bJ6 q HQ.out p hp hpq];simpa using hwd
         ·rw[Go.Maps.sameKey_ne (by intro e;exact hpq (Lit.int.inj e).2)] at h;exact HNO.out p hp (by simpa using h)
        clear HNO HQ hwd;gi_wp2;exact⟨⟨_,cnt1,HRG4,HNO2,HB5,HS4⟩,HM.out⟩
       |true =>
        have HWD:Hid (q.2.word=x3):=eq_of_beq hwd;have k4:=HR6.out.F.kf.cell 4;have f4:=aR HR6.out.F.kf.2 4;obtain⟨g3,hg3⟩:∃g,g = { g2 with kind:=q.1 }:=⟨_,rfl⟩
        have HR7:=Hd (HR6.out.setF (g':=g3) 4 (.int .i64 q.1) (by rw[hg3];rfl) (by rw[hg3]) (by rw[hg3]));have HG3:Hid (g3 = { bDh with key:=x0,stamp:=nn,day:=d,kind:=q.1 }):=by show _=_;rw[hg3,HG2.out]
        have HML:Hid (ws.length=more.length+4):=by show _=_;rw[HW2.out];rfl
        clear HRG4 HNO HHAS HAT HOWN hwd hg3 HM HB5;have hkne:w1.heap.size≠w.heap.size+1+1:=bDt HKK.out HR6.out.F.kf (by decide);have HKA:Hid (∀ob,aP ((W7.setCell ⟨w.heap.size+1+1,4,none⟩ (.int .i64 q.1)).alloc ob) w1.heap.size (aK q.2.word q.2.cls q.2.has (.map mv) q.2.code) 62):=fun ob=>(bI4 HKK.out hkne).below (aB _ _)
        clear hkne;gi_wp2_with (first|(refine bF1 (by rfl) 82 4 rfl bw 0 ws.length rfl (by omega) ?_;intro off1 hoff1)|(refine eP (by rfl) 62 _ rfl w1.heap.size rfl _ _ (HKA.out _) underlying62 rfl HSK.out ?_));refine⟨trivial,(callsIn_wide.2 (bG4 _ _)).mono ?_⟩;rintro e w7 ⟨rfl,rfl⟩;gi_wp2_with fail;obtain⟨W8,hW8⟩:∃W8,W8=((W7.setCell ⟨w.heap.size+1+1,4,none⟩ (.int .i64 q.1)).alloc (.cells #[.slice (some ⟨bw,off1,none⟩) (ws.length-4) (ws.length-4)] 36)).alloc (.cells (aK q.2.word q.2.cls q.2.has (.map mv) q.2.code) 62):=⟨_,rfl⟩
        rw[<-hW8];have hsV:(W7.setCell ⟨w.heap.size+1+1,4,none⟩ (.int .i64 q.1)).heap.size=W7.heap.size:=by simp[World.setCell]
        have HR8:Hid (RSt W8 w0 br (w.heap.size+1+1) w.heap.size (w.heap.size+1) bw ws bad1 g3 bBy bBy):=by show RSt _ _ _ _ _ _ _ _ _ _ _ _;rw[hW8];exact(HR7.out.below (aB _ _)).below (aB _ _)
        have HB8:Hid (aP W8 W7.heap.size #[.slice (some ⟨bw,off1,none⟩) (ws.length-4) (ws.length-4)] 36):=by
         have h:=(aP.new0 (W7.setCell ⟨w.heap.size+1+1,4,none⟩ (.int .i64 q.1)) #[.slice (some ⟨bw,off1,none⟩) (ws.length-4) (ws.length-4)] 36).below (aB _ (.cells (aK q.2.word q.2.cls q.2.has (.map mv) q.2.code) 62));rw[hsV,<-hW8] at h;exact h
        have HK8:Hid (aP W8 (W7.heap.size+1) (aK q.2.word q.2.cls q.2.has (.map mv) q.2.code) 62):=by
         have h:=aP.new0 ((W7.setCell ⟨w.heap.size+1+1,4,none⟩ (.int .i64 q.1)).alloc (.cells #[.slice (some ⟨bw,off1,none⟩) (ws.length-4) (ws.length-4)] 36)) (aK q.2.word q.2.cls q.2.has (.map mv) q.2.code) 62;rw[World.size_alloc,hsV,<-hW8] at h;exact h
        have HN8:Hid (w0.heap.size<=W8.heap.size/\w0.heap.size<=W7.heap.size):=⟨HR8.out.be.size,HR6.out.be.size⟩
        have HO0:Hid (bJp (((bD7 x1).map fun n=>({ bDh with key:=x0,stamp:=n,day:=d,kind:=q.1 }:aE)).bind fun g=>bDk g [] (more.take 0)) bad1 g3):=by
         show bJp _ _ _;rw[hbad1];cases hn:bD7 x1 with
         |none=>exact⟨rfl,fun h e=>by cases e⟩
         |some v =>
          refine⟨rfl,fun h e=>?_⟩;rw[HG3.out,HN.out v hn];exact Option.some.inj e
        have HDR2:Hid (bEi ws=((bD7 x1).map fun n=>({ bDh with key:=x0,stamp:=n,day:=d,kind:=q.1 }:aE)).bind fun g=>bDk g q.2.fields more):=by
         show _=_;have hf:=bIn HQ.out;rw[HWD.out] at hf;rw[HDR.out,hf];cases bD7 x1 <;> rfl
        obtain⟨o0,ho0⟩:∃o0,o0=((bD7 x1).map fun n=>({ bDh with key:=x0,stamp:=n,day:=d,kind:=q.1 }:aE)):=⟨_,rfl⟩
        rw[<-ho0] at HO0 HDR2;have HWM:Hid (∀s,s∈more->s.length<=65536):=fun s hs=>HWS.out s (by rw[HW2.out];simp[hs])
        have HG30:Hid (g3.picks.length=0/\g3.options.length=0):=by show _/\_;rw[HG3.out];exact⟨rfl,rfl⟩
        have HOF1:Hid (0<more.length->off1=4):=fun h=>by have h1:=HML.out;have h2:=hoff1 (by omega);omega
        have HLE:Hid (ws.length-4=more.length):=by have h1:=HML.out;show _=_;omega
        rw[HLE.out] at HB8;clear hW8 hsV hoff1 HR7 HR6 HKK HKA HDR ho0 HG3 HS4 HLE HWD hbad1 HN HWS HL HG2 HR5 HX2;refine bKc fun T hT=>?_
        refine wpIn_rangeFunc_ownF (F:=Fence.wide) (n:=6) rfl (by decide) (gf:=118) (lb:=#[.pointer (some ⟨W7.heap.size+1,0,none⟩)]) (by subst hT;rfl) trivial (aXb func118) (bId 5 q.2.word q.2.cls q.2.has (nI _) (.map mv) q.2.code (W7.heap.size+1) (fun _ _=>True) W8 HK8.out) (fun _ _=>trivial) (fun _ _ _ _ _ _ _ _=>trivial) (Br _ _) (fun _=>rfl)
         (bFw w0 br (w.heap.size+1+1) w.heap.size (w.heap.size+1) bw W7.heap.size ws o0 more) (bHx w0 br (w.heap.size+1) more) (bFw.own HN8.out.1) (fun c=>bHx.own HN8.out.1 c)
         ⟨bad1,g3,bBy,bBy,off1,HR8.out,HB8.out,fun h=>HOF1.out h,Nat.zero_le _,HO0.out,by rw[HG30.out.1];exact Nat.zero_le _,by rw[HG30.out.2];exact Nat.zero_le _⟩
         (fun x=>{ tmps:=(T.setIfInBounds 86 (.int .i64 (x.val:Int))).setIfInBounds 11 (.int .i64 (x.val:Int)),defers:=[] }) ?assign ?body ?done ?stop
        case assign =>
         intro l x W K hK;subst hT;unfold bP7;gi_wp2;exact hK
        case body =>
         rintro l pre x W ⟨bad,g,pv,ov,off,hR,hB10,hoff,hle,hS,hp1,hp2⟩ hlt;subst hT;simp only[List.setIfInBounds_toArray,List.set_cons_zero,List.set_cons_succ];have HRR:=Hd hR;obtain⟨m,hm⟩:∃m,m=more.length-pre.length:=⟨_,rfl⟩
         rw[<-hm] at hB10;have HB10:=Hd hB10;have c10:=hB10.cell 0;cases m with
         |zero =>
          have HX:Hid ((pre ++ [x]).length=more.length+1):=by show _=_;rw[List.length_append,List.length_singleton];omega
          have HFg:Hid ((prog.info? 29).map (·.size)=some (g.cellsW pv ov).size):=bD0;have HOg:Hid ((g.cellsW pv ov).all (·.oneCell')=true):=bD1 (bEm hR.F.op) (bEm hR.F.oo);have HFZ2:Hid ((bDh.cellsW bBy bBy).size=(g.cellsW pv ov).size):=rfl;have HS:=Hd (HRR.out.marked true);have k2:=HRR.out.k2.cell 0;have cr:=HRR.out.F.kr.cell 0;have fr:=aR HRR.out.F.kr.2 0;clear hR hB10 hoff hle hS hp1 hp2 hm HB10;gi_wp2_with (first|(refine eP (by rfl) 29 _ rfl (w.heap.size+1+1) rfl _ _ HS.out.F.kf underlying29 rfl HFg.out ?_)|(refine bQ (by rfl) 29 _ _ rfl (w.heap.size+1) rfl (g.cellsW pv ov) rfl HS.out.kc.2 HFg.out HFZ2.out HOg.out ?_;intro w4 kx bx ko Rt gr;have GX:=Hd (HS.out.fin kx gr HRC.out);have KO:=Hd ko;clear kx bx ko Rt gr));exact⟨(KeepsOthers.setCell _ _ _).trans KO.out,rfl,HX.out,g,pv,ov,GX.out⟩
         |succ m =>
          obtain⟨s,hs⟩:∃s,more[pre.length]?=some s:=⟨_,Lg (by omega)⟩
          have hoff:=hoff (by omega);have hb1:=aD (Br W.heap.size W) 1;have hR1:=hR.below hb1;have hB1:=hB10.below hb1;have HX2:Hid ((W.drewN 1).cell? ⟨bw,off,none⟩=some (.string ⟨s.toArray⟩)):=by show _=_;rw[hoff];exact(HXW.out _ hR1.kw).2 pre.length s hs
          have HFL:=Hd (bPl w0.heap.size br (w.heap.size+1+1) bad g pv ov x.val x.isLt s (HWM.out s (List.mem_of_getElem? hs)) (by omega) (by omega) (W.drewN 1) w0 (HE.out w0 (Br _ _)) hR1.be hR1.lr hR1.be.size (Nl _) hR1.lf hR1.F);gi_wp2_with fail;refine bLz (ro:=some l) (C:=⟨W.drewN 1,br,w.heap.size,w.heap.size+1+1,W7.heap.size,bw,off,m+1,m+1,(x.val:Int),s,fun v W'=>Fld (W.drewN 1) w0.heap.size br (w.heap.size+1+1) bad g pv ov x.val s (.returned v) W'⟩) ⟨rfl,rfl,rfl,rfl,rfl,Nat.succ_pos _,hR1.k2.cell 0,hB1.cell 0,HX2.out,HFL.out.mono fun e w' h=>?_⟩ rfl rfl rfl ?_
          ·obtain⟨⟨v,rfl⟩,h2⟩:=h;exact⟨v,rfl,⟨v,rfl⟩,h2⟩
          rintro vr W3 ⟨_,bad',g',pv',ov',hF',hWr,_,_,e1,e2,e3,e4⟩;simp only[iZ,bM4,List.foldl,List.setIfInBounds_toArray,List.set_cons_zero,List.set_cons_succ,bHy.val];have hB3:=hWr.box hB1 (hR1.F.not_box hB1 (by decide) (by decide) (by decide) (by decide));have c10:=hB3.cell 0;have f10:=aR hB3.2 0;have HKO:=Hd ((zN hb1).trans (hR1.F.keeps hWr));have HNX:=Hd (fun (off2:Nat) (h:1<m+1->off2=off+1)=>bFw.next (x:=x) hR1 hB1 hm hoff hs HN8.out.2 hS hp1 hp2 hF' hWr e1 e2 e3 e4 h rfl);clear hR hB10 hoff hle hS hp1 hp2 hm HB10 hR1 hB1 hb1 HFL HX2 hB3 hF' hWr e1 e2 e3 e4 HRR hs;gi_wp2_with (refine bF1 (by rfl) 100 1 rfl bw off (m+1) rfl (by omega) ?_;intro off2 hoff2);exact⟨HKO.out.trans (KeepsOthers.setCell _ _ _),trivial,HNX.out off2 hoff2⟩
        case done =>
         rintro D ys W hD rfl ⟨bad,g,pv,ov,off,hR,hB10,hoff,hle,hS,_,_⟩ hK;subst hT;obtain⟨m,hm⟩:∃m,m=more.length-(bDq q.2.has 13).length:=⟨_,rfl⟩
         rw[<-hm] at hB10;have hR1:=hR.below (aD (Br W.heap.size W) 1);have hB1:=hB10.below (aD (Br W.heap.size W) 1);have HSF:Hid (bJp (bEi ws) (bad || decide ((0:Int)<(m:Int))) g):=by
          show bJp _ _ _;have hv:=bFy q.2.has 13 (Nl _);rw[bFe] at hv;have hl:=congrArg List.length hv;rw[List.length_map] at hl;rw[HDR2.out];rw[hv] at hS
          by_cases h0:m=0
          ·have e:decide ((0:Int)<(m:Int))=false:=by rw[h0];rfl
           rw[e,Bool.or_false];rw[List.take_of_length_le (by omega)] at hS;exact hS
          ·have e:decide ((0:Int)<(m:Int))=true:=decide_eq_true (by omega);rw[e,Bool.or_true];have hd:(o0.bind fun g=>bDk g q.2.fields more)=none:=by
            cases o0 with
            |none=>rfl
            |some g=>exact bE5 _ _ g (by omega)
           rw[hd];exact⟨rfl,fun h e=>by cases e⟩
         have HKK:=Hd hK;have HDD:=Hd hD;have HR1:=Hd hR1;clear hoff hle hS hm hR hB10;gi_wp2_with fail;refine bLy (ro:=none) (C:=⟨W.drewN 1,br,w.heap.size,bad,some ⟨bw,off,none⟩,m,m⟩) ⟨rfl,rfl,hR1.F.kr,hR1.k2,W7.heap.size,rfl,hB1.cell 0⟩ rfl rfl rfl ?_;simp only[iZ,bM3,List.foldl,List.setIfInBounds_toArray,List.set_cons_zero,List.set_cons_succ,bEp.val];rw[show bEp.ln ⟨W.drewN 1,br,w.heap.size,bad,some ⟨bw,off,none⟩,m,m⟩=decide ((0:Int)<(m:Int)) from rfl];have HS:=Hd (hR1.marked (bad || decide ((0:Int)<(m:Int))));have hne:D≠br:=fun e=>by
          have h1:=hR1.F.kr.2;rw[<-e] at h1;have h2:(W.drewN 1).heap[D]?=some (.deferred (some [])):=HKK.out;rw[h2] at h1;cases h1
         have HK2:Hid (((W.drewN 1).setCell ⟨br,0,none⟩ (.bool (bad || decide ((0:Int)<(m:Int))))).heap[D]?=some (.deferred (some []))):=(Below.heap_setCell _ _ _ D hne).trans HKK.out;obtain⟨W9,hW9⟩:∃W9,W9=(W.drewN 1).setCell ⟨br,0,none⟩ (.bool (bad || decide ((0:Int)<(m:Int)))):=⟨_,rfl⟩
         rw[<-hW9] at HS HK2 ⊢;have HFg:Hid ((prog.info? 29).map (·.size)=some (g.cellsW pv ov).size):=bD0;have HOg:Hid ((g.cellsW pv ov).all (·.oneCell')=true):=bD1 (bEm hR1.F.op) (bEm hR1.F.oo);have HFZ2:Hid ((bDh.cellsW bBy bBy).size=(g.cellsW pv ov).size):=rfl;clear hW9 hne hR1 hB1 hK hD HKK;gi_wp2_with (first|(refine eP (by rfl) 29 _ rfl (w.heap.size+1+1) rfl _ _ HS.out.F.kf underlying29 rfl HFg.out ?_)|(refine bQ (by rfl) 29 _ _ rfl (w.heap.size+1) rfl (g.cellsW pv ov) rfl HS.out.kc.2 HFg.out HFZ2.out HOg.out ?_;intro w4 kx bx ko Rt gr;have GX:=Hd (HS.out.fin kx gr HRC.out);have HK3:=Hd (ko.same D _ HK2.out rfl);clear kx bx ko Rt gr));refine⟨by simp,.inl ⟨_,_,rfl,run_takeDeferred HK3.out,?_⟩⟩;have hFin2:=GX.out.other (aZf.grown (grownBy_putObj' w4 D (.deferred none)) (fun k e=>e)) (fun k e=>by injection e with e;subst e;exact⟨Nat.le_trans HN8.out.1 HDD.out,fun o ho=>by rw[HK3.out] at ho;cases ho;rfl⟩);refine⟨_,results_cell_row results65 _ _ (w.heap.size+1) 29 (g.cellsW pv ov) (0,0) _ rfl hFin2.kc.2 underlying29 rfl bD0,?_⟩;exact⟨_,g,pv,ov,rfl,hFin2,HSF.out⟩
        case stop =>
         rintro D c pre W hD ⟨k,hk,hkk,rfl⟩ ⟨rfl,hlen,g,pv,ov,hFin⟩ hK;subst hT;gi_wp2;refine⟨by simp,.inl ⟨_,_,rfl,run_takeDeferred hK,?_⟩⟩;have hFin2:=hFin.other (aZf.grown (grownBy_putObj' W D (.deferred none)) (fun k e=>e)) (fun k e=>by injection e with e;subst e;exact⟨Nat.le_trans HN8.out.1 hD,fun o ho=>by rw[hK] at ho;cases ho;rfl⟩);refine⟨_,results_cell_row results65 _ _ (w.heap.size+1) 29 (g.cellsW pv ov) (0,0) _ rfl hFin2.kc.2 underlying29 rfl bD0,true,g,pv,ov,rfl,hFin2,?_⟩;have hd:bEi ws=none:=by
          rw[HDR2.out];have hne:q.2.fields.length≠more.length:=by
           have h1:=bKn q.2.has (show k+1<=13 by omega);have h2:=congrArg List.length (bFy q.2.has 13 (Nl _));rw[List.length_map,bFe] at h2;omega
          cases o0 with
          |none=>rfl
          |some g=>exact bE5 _ _ g hne
         rw[hd];exact⟨rfl,fun h e=>by cases e⟩
end
section
open Go Go.RowKit Num
theorem bN3{N:Nat}{css:List (List Value)}(h:∀cs,cs∈css->cs.length=N):css.flatten.length=css.length*N:=by
 induction css with
 |nil=>simp
 |cons c r ih =>
  have h1:=ih (fun cs hcs=>h cs (List.mem_cons_of_mem _ hcs));have h2:=h c (List.mem_cons_self ..);rw[List.flatten_cons,List.length_append,h1,h2,List.length_cons,Nat.succ_mul];omega
theorem bKa{N:Nat}:∀ {css:List (List Value)},(∀cs,cs∈css->cs.length=N)->∀(k:Nat) (cs:List Value) (j:Nat),css[k]?=some cs->j<N->css.flatten[k*N+j]?=cs[j]?
 | [],_,k,cs,j,h,_=>by simp at h
 |y::r,hh,0,cs,j,h,hj=>by
  simp at h;subst h;have h2:=hh y (List.mem_cons_self ..);rw[List.flatten_cons,Nat.zero_mul,Nat.zero_add,List.getElem?_append_left (by omega)]
 |y::r,hh,k+1,cs,j,h,hj=>by
  have ih:=bKa (fun cs hcs=>hh cs (List.mem_cons_of_mem _ hcs)) k cs j (by simpa using h) hj;have h2:=hh y (List.mem_cons_self ..);have e:(k+1)*N+j=N+(k*N+j):=by rw[Nat.succ_mul];omega
  rw[List.flatten_cons,List.getElem?_append_right (by omega),h2,e,Nat.add_sub_cancel_left];exact ih
theorem bJn{N:Nat}(hN:0<N){w:World}{a:Option Addr}{css:List (List Value)}(hh:∀cs,cs∈css->cs.length=N)(h:dT w a css.flatten):gJ w a N css:=by
 by_cases h0:css=[]
 ·exact .inl h0
 ·obtain⟨b,off,ha,hlt,hc⟩:=h.addr (by
   intro e;have h1:=bN3 hh;rw[e] at h1;have h2:css.length≠0:=by simpa using h0
   have h3:css.length*N=0:=h1.symm;rcases Nat.mul_eq_zero.1 h3 with h|h <;> omega)
  refine .inr ⟨b,off,ha,hlt,fun k cs hk j v hv=>?_⟩;have hl:=hh cs (List.mem_of_getElem? hk);have hj:j<N:=by have:=(Li.1 hv).1;omega
  rw[Nat.add_assoc];exact hc _ v (by rw[bKa hh k cs j hk hj];exact hv)
theorem bJ3{w:World}{base N:Nat}{e:TypeId}{v:Value}{css:List (List Value)}(hN:0<N)(hh:∀cs,cs∈css->cs.length=N)(h:w.ownsRow base e N v css.length css.flatten):∃a c,v=.slice a css.length c/\css.length<=c/\gJ w a N css:=by
 rcases h.2 with⟨rfl,h0⟩|⟨g,cap,cur,rfl,_,hg,hn,_,hc,ht⟩
 ·obtain rfl:css=[]:=List.length_eq_zero_iff.1 h0;exact⟨none,0,rfl,Nl _,.inl rfl⟩
 ·refine⟨_,cap,rfl,hn,bJn hN hh (.inr ⟨g,0,rfl,(Ai.1 hg).1,fun k u hk=>?_⟩)⟩;rw[Nat.zero_add];show (w.cell? ⟨g,k,none⟩)=some u;have hk2:cur[k]?=some u:=by
   rw[<-ht] at hk;rw[List.getElem?_take] at hk;split at hk
   ·rw[<-Array.getElem?_toList];exact hk
   ·cases hk
  simp[World.cell?,hg,hk2]
theorem bHw{W:World}{n1:Nat}{g:aE}{pv ov:Value}(hp:W.ownsRow n1 83 2 pv g.picks.length (bEr g.picks))(ho:W.ownsRow n1 55 7 ov g.options.length (bEk g.options)):
  ∃pa pc oa oc,g.cellsW pv ov=g.cells pa pc oa oc/\g.picks.length<=pc/\g.options.length<=oc/\g.Behind W pa oa:=by
 obtain⟨pa,pc,rfl,h1,h2⟩:=bJ3 (N:=2) (css:=g.picks.map bJ.cells) (by decide) (fun cs h=>by obtain⟨x,_,rfl⟩:=List.mem_map.1 h;rfl) (by rw[List.length_map];exact hp);obtain⟨oa,oc,rfl,h3,h4⟩:=bJ3 (N:=7) (css:=g.options.map eJ.cells) (by decide) (fun cs h=>by obtain⟨x,_,rfl⟩:=List.mem_map.1 h;rfl) (by rw[List.length_map];exact ho);rw[List.length_map] at h1 h3 ⊢;rw[List.length_map];exact⟨pa,pc,oa,oc,rfl,h1,h3,h2,h4⟩
theorem bC5{P:Program}{ops:Array Oper}{rest:List Oper}{o:Oper}{a:Act}{w:World}{Q:Exit->Act->World->Prop}(hgd:o.guard=none)(ty:TypeId)(x y:Operand)(ho:o.op=.store ty x y)(g:Nat)(cells:Array Value)(hx:a.eval x=.pointer (some ⟨g,0,none⟩))(hy:a.eval y=.agg cells)
  {t:TypeId}{old:Array Value}(hg:aP w g old t) (hi:(P.info? ty).map (·.size)=some cells.size) (hold:old.size=cells.size) (h1:cells.all (·.oneCell')=true)
  (h:∀w',aP w' g cells t->(∀B,B<=g->Below B w w')->w.grownBy w' (some g)->wpList P ops Q rest (a.put o.dst undef) w'):wpList P ops Q (o::rest) a w :=
 wpList_store_row hgd ty x y ho g cells hx hy t old hg.2 hi hold h1 (h _ ⟨by simp[World.setRow];exact hg.1,setRow_heap _ _ _ _ _ _ hg.2⟩ (fun B hB=>below_setRow (Br _ _) hB _) ⟨rfl,rfl,rfl,by simp[World.setRow],fun k _ hk=>setRow_other w g k cells (fun e=>hk (by rw[e]))⟩)
theorem bEj{P:Program}{fn:Func}{p u:Tmp}{ty:TypeId}(h:fn.results=#[.cell p ty,.tmp u])(tmps:Array Value)(w:World)(g:Nat)(t:TypeId)(cs:Array Value)(fr:Nat×Nat)(d:TypeDesc)
  (hp:tmps.getD p undef=.pointer (some ⟨g,0,none⟩)) (hg:w.heap[g]?=some (.cells cs t fr))
  (hu:P.underlying ty=some d) (hd:(match d with | .struct _ | .array _ _=>true|_=>false)=true) (hi:(P.info? ty).map (·.size)=some cs.size) :
  (results fn tmps).run P w=.ok (.tuple #[.agg cs,tmps.getD u undef]) w:=by
 have hp':tmps[p]?.getD undef=.pointer (some ⟨g,0,none⟩):=by simpa using hp
 simp[results,h,hp',asAddr,run_loadVar_row w g t ty cs fr d hg hu hd hi]
theorem bJc{w:World}{base B n:Nat}{T:TypeId}{k:Nat}{v:Value}{l:List Value}(h:w.ownsRow B T k v n l)(hb:base<=B):w.ownsRow base T k v n l:=by
 obtain⟨h1,h2|⟨g,cap,cur,e,hg,r⟩⟩:=h
 ·exact⟨h1,.inl h2⟩
 ·exact⟨h1,.inr ⟨g,cap,cur,e,Nat.le_trans hb hg,r⟩⟩
def bGx(s:List UInt8)(w:World)(e:Ending)(w':World):Prop :=
 ∃pv ov,e=.returned (.tuple #[.agg ((dec s).1.cellsW pv ov),.int .i64 (dec s).2])/\w'.ownsRow w.heap.size 83 2 pv (dec s).1.picks.length (bEr (dec s).1.picks)/\w'.ownsRow w.heap.size 55 7 ov (dec s).1.options.length (bEk (dec s).1.options)/\Below w.heap.size w w'
attribute [local go_sem] aV
theorem bMl(s:List UInt8)(w:World)(hE:iE w)(hl:s.length<4294967281)
  (hck:∀f,bEi (bDb 32 s)=some f->∀pa pc oa oc W,iE W->f.Behind W pa oa->f.picks.length<=pc->Calls prog 12 #[.agg (f.cells pa pc oa oc)] W fun e w'=>e=.returned (.int .i64 (bY f))/\Below W.heap.size W w') :
  Calls prog 23 #[.string ⟨s.toArray⟩] w (bGx s w):=by
 have HE:=Hd hE
 by_cases h6:65536<s.length
 ·have HD:Hid (dec s=(bDh,4)):=by show _=_;unfold dec;rw[if_pos h6]
  go_enter func23,ntmps23;have KZ:Hid (aP (w.alloc (.cells #[.string ⟨#[]⟩,.int .i64 0,.bool false,.int .i64 0,.int .i64 0,.string ⟨#[]⟩,.string ⟨#[]⟩,.string ⟨#[]⟩,.string ⟨#[]⟩,.string ⟨#[]⟩,.string ⟨#[]⟩,.string ⟨#[]⟩,.string ⟨#[]⟩,.string ⟨#[]⟩,.string ⟨#[]⟩,.string ⟨#[]⟩,.string ⟨#[]⟩,.string ⟨#[]⟩,.slice none 0 0,.slice none 0 0,.int .i64 0] 29)) w.heap.size (bDh.cellsW bBy bBy) 29):=aP.new0 _ _ _;have HFZ:Hid ((prog.info? 29).map (·.size)=some (bDh.cellsW bBy bBy).size):=bD0;have HO1:Hid ((bDh.cellsW bBy bBy).all (·.oneCell')=true):=bD1 rfl rfl;have HBA:Hid (Below w.heap.size w (w.alloc (.cells #[.string ⟨#[]⟩,.int .i64 0,.bool false,.int .i64 0,.int .i64 0,.string ⟨#[]⟩,.string ⟨#[]⟩,.string ⟨#[]⟩,.string ⟨#[]⟩,.string ⟨#[]⟩,.string ⟨#[]⟩,.string ⟨#[]⟩,.string ⟨#[]⟩,.string ⟨#[]⟩,.string ⟨#[]⟩,.string ⟨#[]⟩,.string ⟨#[]⟩,.string ⟨#[]⟩,.slice none 0 0,.slice none 0 0,.int .i64 0] 29))):=aB _ _;go_wp2_with (refine bC5 rfl 29 _ _ rfl w.heap.size (bDh.cellsW bBy bBy) rfl rfl KZ.out HFZ.out rfl HO1.out ?_;intro w4 kx bx gr;have KX:=Hd kx;have BX:=Hd (HBA.out.trans (bx _ (Nl _)));clear kx bx gr);refine bodyPost_ret (v:=.tuple #[.agg (bDh.cellsW bBy bBy),.int .i64 4]) (bEj results23 _ _ w.heap.size 29 (bDh.cellsW bBy bBy) (0,0) _ rfl KX.out.2 underlying29 rfl HFZ.out) rfl ?_;unfold bGx;rw[HD.out];exact⟨bBy,bBy,rfl,⟨rfl,.inl ⟨rfl,rfl⟩⟩,⟨rfl,.inl ⟨rfl,rfl⟩⟩,BX.out⟩
 ·obtain⟨wA,hwA⟩:∃wA,wA=w.alloc (.cells #[.string ⟨#[]⟩,.int .i64 0,.bool false,.int .i64 0,.int .i64 0,.string ⟨#[]⟩,.string ⟨#[]⟩,.string ⟨#[]⟩,.string ⟨#[]⟩,.string ⟨#[]⟩,.string ⟨#[]⟩,.string ⟨#[]⟩,.string ⟨#[]⟩,.string ⟨#[]⟩,.string ⟨#[]⟩,.string ⟨#[]⟩,.string ⟨#[]⟩,.string ⟨#[]⟩,.slice none 0 0,.slice none 0 0,.int .i64 0] 29):=⟨_,rfl⟩
  obtain⟨wB,hwB⟩:∃wB,wB=wA.alloc (.cells #[.bool false] 96):=⟨_,rfl⟩
  have sA:wA.heap.size=w.heap.size+1:=by rw[hwA,World.size_alloc]
  have sB:wB.heap.size=w.heap.size+1+1:=by rw[hwB,World.size_alloc,sA]
  have bA:Below w.heap.size w wA:=by rw[hwA];exact aB _ _
  have bB:Below wA.heap.size wA wB:=by rw[hwB];exact aB _ _
  have KA:aP wA w.heap.size (bDh.cellsW bBy bBy) 29:=by rw[hwA];exact aP.new0 _ _ _
  have KB:aP wB (w.heap.size+1) #[.bool false] 96:=by rw[hwB,<-sA];exact aP.new0 _ _ _
  have HKA:=Hd KA;have HKB:=Hd KB;have HBA:=Hd bA;have HBB:=Hd bB;have HSA:=Hd sA;have HSB:=Hd sB;have HEA:=Hd (hE.below bA);have HEB:=Hd ((hE.below bA).below bB);have HCK:=Hd hck;have HFZ:Hid ((prog.info? 29).map (·.size)=some (bDh.cellsW bBy bBy).size):=bD0;have HO1:Hid ((bDh.cellsW bBy bBy).all (·.oneCell')=true):=bD1 rfl rfl;have HDEC:Hid (dec s=match bEi (bDb 32 s) with|some f=>if bY f=0 then(f,0) else(bDh,bY f)|none=>(bDh,3)):=by show _=_;unfold dec;rw[if_neg h6];cases bEi (bDb 32 s) <;> rfl
  have HCUT:Hid ((∀x,x∈bDb 32 s->x.length<=65536)/\(bDb 32 s).length<=100000):=⟨fun x hx=>by have:=bEo hx;omega,by have:=bFt 32 s;omega⟩
  clear hE hck KA KB bA bB sA sB;go_enter func23,ntmps23;go_wp2_with fail;rw[<-hwA,<-hwB];clear hwA hwB;refine(bH0 s 32 wB HEB.out hl).mono ?_;rintro e w1 ⟨rfl,hw1⟩;have HB1:Hid (Below wB.heap.size wB w1):=by show Below _ _ _;rw[hw1];exact aB _ _
  have HKW:Hid (aP w1 wB.heap.size (bDf (bDb 32 s)).toArray 9):=by show aP _ _ _ _;rw[hw1];exact aP.new0 _ _ _
  clear hw1;have HRD:=Hd (bLx (bDb 32 s) HCUT.out.1 HCUT.out.2 (w.heap.size+1) wB.heap.size w1 wA HEA.out (HBB.out.trans (HB1.out.mono HBB.out.size)) (by rw[HSA.out];exact Nl _) (HKB.out.below HB1.out) HKW.out);go_wp2_with fail;refine HRD.out.mono ?_;rintro e w2 ⟨bad,g,pv,ov,rfl,hFin,hSoft⟩;clear HRD HKW;have HFin:=Hd hFin;have HSoft:=Hd hSoft;have HBW:Hid (Below w.heap.size w w2):=HBA.out.trans (hFin.be.mono HBA.out.size);have HK2:=Hd (HKA.out.below hFin.be);have HN2:Hid (wA.heap.size<=w2.heap.size):=hFin.be.size;have HFg:Hid ((prog.info? 29).map (·.size)=some (g.cellsW pv ov).size):=bD0;have HOg:Hid ((g.cellsW pv ov).all (·.oneCell')=true):=bD1 (bEm hFin.op) (bEm hFin.oo);have HFZ2:Hid ((bDh.cellsW bBy bBy).size=(g.cellsW pv ov).size):=rfl;have HZ3:Hid (aP (w2.alloc (.cells #[.string ⟨#[]⟩,.int .i64 0,.bool false,.int .i64 0,.int .i64 0,.string ⟨#[]⟩,.string ⟨#[]⟩,.string ⟨#[]⟩,.string ⟨#[]⟩,.string ⟨#[]⟩,.string ⟨#[]⟩,.string ⟨#[]⟩,.string ⟨#[]⟩,.string ⟨#[]⟩,.string ⟨#[]⟩,.string ⟨#[]⟩,.string ⟨#[]⟩,.string ⟨#[]⟩,.slice none 0 0,.slice none 0 0,.int .i64 0] 29)) w2.heap.size (bDh.cellsW bBy bBy) 29):=aP.new0 _ _ _;have HB3:Hid (Below w2.heap.size w2 (w2.alloc (.cells #[.string ⟨#[]⟩,.int .i64 0,.bool false,.int .i64 0,.int .i64 0,.string ⟨#[]⟩,.string ⟨#[]⟩,.string ⟨#[]⟩,.string ⟨#[]⟩,.string ⟨#[]⟩,.string ⟨#[]⟩,.string ⟨#[]⟩,.string ⟨#[]⟩,.string ⟨#[]⟩,.string ⟨#[]⟩,.string ⟨#[]⟩,.string ⟨#[]⟩,.string ⟨#[]⟩,.slice none 0 0,.slice none 0 0,.int .i64 0] 29))):=aB _ _;clear hFin hSoft;cases bad with
  |true =>
   have HD:Hid (dec s=(bDh,3)):=by
    have h:=HSoft.out.1;show _=_;rw[HDEC.out];cases hd:bEi (bDb 32 s) with
    |none=>rfl
    |some f=>rw[hd] at h;cases h
   clear HDEC HSoft HCK;go_wp2_with (first|(refine bC5 rfl 29 _ _ rfl w2.heap.size (g.cellsW pv ov) rfl rfl HZ3.out HFg.out HFZ2.out HOg.out ?_;intro w4 kx bx gr;have KX:=Hd kx;have BX:=Hd (HB3.out.trans (bx _ (Nl _)));have HKR:=Hd (HK2.out.below (HB3.out.trans (bx _ (Nl _))));have c15:=((HFin.out.kr.below (HB3.out.trans (bx _ (Nl _)))).cell 0);clear kx bx gr)|(refine bC5 rfl 29 _ _ rfl w.heap.size (bDh.cellsW bBy bBy) rfl rfl HKR.out HFZ.out rfl HO1.out ?_;intro w6 kx bx gr;have KX6:=Hd kx;have BX6:=Hd (bx _ (Nl _));have GR6:=Hd gr;clear kx bx gr));refine bodyPost_ret (v:=.tuple #[.agg (bDh.cellsW bBy bBy),.int .i64 3]) (bEj results23 _ _ w.heap.size 29 (bDh.cellsW bBy bBy) (0,0) _ rfl KX6.out.2 underlying29 rfl HFZ.out) rfl ?_;unfold bGx;rw[HD.out];exact⟨bBy,bBy,rfl,⟨rfl,.inl ⟨rfl,rfl⟩⟩,⟨rfl,.inl ⟨rfl,rfl⟩⟩,(HBW.out.trans (BX.out.mono HBW.out.size)).trans BX6.out⟩
  |false =>
   obtain⟨hd⟩:Nonempty (bEi (bDb 32 s)=some g):=by
    have h:=HSoft.out.1;have h2:=HSoft.out.2;cases hd:bEi (bDb 32 s) with
    |none=>rw[hd] at h;cases h
    |some f=>exact⟨by rw[h2 f hd]⟩
   rw[hd] at HDEC;have HCALL:Hid (∀W,Below w2.heap.size w2 W->Calls prog 12 #[.agg (g.cellsW pv ov)] W fun e w'=>e=.returned (.int .i64 (bY g))/\Below W.heap.size W w'):=fun W hW=>by
    obtain⟨pa,pc,oa,oc,hce,hpc,_,hbeh⟩:=bHw HFin.out.op HFin.out.oo;rw[hce];exact HCK.out g hd pa pc oa oc W (HE.out.below (HBW.out.trans (hW.mono HBW.out.size))) (hbeh.below hW) hpc
   clear hd HSoft HCK;go_wp2_with (first|(refine bC5 rfl 29 _ _ rfl w2.heap.size (g.cellsW pv ov) rfl rfl HZ3.out HFg.out HFZ2.out HOg.out ?_;intro w4 kx bx gr;have KX:=Hd kx;have BX:=Hd (HB3.out.trans (bx _ (Nl _)));have HKR:=Hd (HK2.out.below (HB3.out.trans (bx _ (Nl _))));have c15:=((HFin.out.kr.below (HB3.out.trans (bx _ (Nl _)))).cell 0);clear kx bx gr)|(refine wpList_load_row rfl 29 _ rfl w2.heap.size rfl 29 (g.cellsW pv ov) (0,0) _ KX.out.2 underlying29 rfl HFg.out ?_));refine(HCALL.out _ BX.out).mono ?_;rintro e w5 ⟨rfl,hb5⟩;have HKR5:=Hd (HKR.out.below hb5);have HKX5:=Hd (KX.out.below hb5);have HB5:Hid (Below w2.heap.size w2 w5):=BX.out.trans (hb5.mono BX.out.size);clear hb5 HCALL
   by_cases hf:bY g=0
   ·have HD:Hid (dec s=(g,0)):=by show _=_;rw[HDEC.out];exact if_pos hf
    rw[hf];go_wp2_with (first|(refine wpList_load_row rfl 29 _ rfl w2.heap.size rfl 29 (g.cellsW pv ov) (0,0) _ HKX5.out.2 underlying29 rfl HFg.out ?_)|(refine bC5 rfl 29 _ _ rfl w.heap.size (g.cellsW pv ov) rfl rfl HKR5.out HFg.out HFZ2.out HOg.out ?_;intro w6 kx bx gr;have KX6:=Hd kx;have BX6:=Hd (bx _ (Nl _));have GR6:=Hd gr;clear kx bx gr));refine bodyPost_ret (v:=.tuple #[.agg (g.cellsW pv ov),.int .i64 0]) (bEj results23 _ _ w.heap.size 29 (g.cellsW pv ov) (0,0) _ rfl KX6.out.2 underlying29 rfl HFg.out) rfl ?_;unfold bGx;rw[HD.out];have hw:aZf (· = w.heap.size) w5 w6:=aZf.grown GR6.out (fun k e=>by injection e with e;exact e.symm);have hAw:w.heap.size<wA.heap.size:=by have:=HSA.out;omega
    refine⟨pv,ov,rfl,bJc (bDd (bDu HFin.out.op HB5.out) hw fun k hk e=>?_) (Nat.le_of_lt hAw),bJc (bDd (bDu HFin.out.oo HB5.out) hw fun k hk e=>?_) (Nat.le_of_lt hAw),(HBW.out.trans (HB5.out.mono HBW.out.size)).trans BX6.out⟩
    ·have:=(HFin.out.op.lt k hk).1;omega
    ·have:=(HFin.out.oo.lt k hk).1;omega
   ·have HD:Hid (dec s=(bDh,bY g)):=by show _=_;rw[HDEC.out];exact if_neg hf
    go_wp2_with (first|(refine bC5 rfl 29 _ _ rfl w.heap.size (bDh.cellsW bBy bBy) rfl rfl HKR5.out HFZ.out rfl HO1.out ?_;intro w6 kx bx gr;have KX6:=Hd kx;have BX6:=Hd (bx _ (Nl _));have GR6:=Hd gr;clear kx bx gr));refine bodyPost_ret (v:=.tuple #[.agg (bDh.cellsW bBy bBy),.int .i64 (bY g)]) (bEj results23 _ _ w.heap.size 29 (bDh.cellsW bBy bBy) (0,0) _ rfl KX6.out.2 underlying29 rfl HFZ.out) rfl ?_;unfold bGx;rw[HD.out];exact⟨bBy,bBy,rfl,⟨rfl,.inl ⟨rfl,rfl⟩⟩,⟨rfl,.inl ⟨rfl,rfl⟩⟩,(HBW.out.trans (HB5.out.mono HBW.out.size)).trans BX6.out⟩
end
end Go.Proofs.YthjekgfoidmagaaGreatDoor
