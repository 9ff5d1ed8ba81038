/- WApp -/
import Derived.Test.YtiloklnjjfaagaaGreatDoorVK
set_option maxHeartbeats 16000000
set_option maxRecDepth 100000
namespace Go.Proofs.YtiloklnjjfaagaaGreatDoor
open Go.Proofs.Tryz
open Go Go.RowKit Go.Shelf Num
theorem dDn{P:Program}{fn:Func}{p q:Tmp}{ty ty2:TypeId}(h:fn.results=#[.cell p ty,.cell q ty2])(tmps:Array Value)(w:World)(a1 a2:Addr)(v1 v2:Value)(hp:tmps.getD p undef=.pointer (some a1))(hq:tmps.getD q undef=.pointer (some a2))
  (h1:(loadVar ty a1).run P w=.ok v1 w) (h2:(loadVar ty2 a2).run P w=.ok v2 w):(results fn tmps).run P w=.ok (.tuple #[v1,v2]) w:=by
 have hp':tmps[p]?.getD undef=.pointer (some a1):=by simpa using hp
 have hq':tmps[q]?.getD undef=.pointer (some a2):=by simpa using hq
 simp[results,h,hp',hq',asAddr,h1,h2,Sem.run_bind,Result.andThen]
theorem dD1{w:World}{g:Nat}{v:Value}(h:w.cell? ⟨g,0,none⟩=some v):(loadVar 31 ⟨g,0,none⟩).run prog w=.ok v w:=by
 have e:(loadVar 31 ⟨g,0,none⟩).run prog w=(Sem.load Mode.plain ⟨g,0,none⟩ Sem.pure).run prog w:=by simp[loadVar,isAgg,load,go_sem]
 rw[e];have:=run_load (P:=prog) (w:=w) ⟨g,0,none⟩ Mode.plain;rw[h] at this;exact this
theorem dE2{w:World}{b12 b13:Nat}{v:Value}(hne:b12≠b13)(k12:aP w b12 dDz 30)(k13:aP w b13 #[v] 31)(u:Value)(w':World)
  (hw:w'=((((w.setCell ⟨b12,0,none⟩ (.slice none 0 0)).setCell ⟨b12,1,none⟩ (.slice none 0 0)).setCell ⟨b12,2,none⟩ (.slice none 0 0)).setCell ⟨b12,3,none⟩ (.slice none 0 0)).setCell ⟨b13,0,none⟩ u) :
  aP w' b12 dDz 30/\aP w' b13 #[u] 31/\(∀B,B<=b12->B<=b13->Below B w w')/\KeepsOthers w w':=by
 subst hw;have h1:=(((k12.setC (i:=0) (v:=.slice none 0 0)).setC (i:=1) (v:=.slice none 0 0)).setC (i:=2) (v:=.slice none 0 0)).setC (i:=3) (v:=.slice none 0 0);have h2:=(((k13.setO (p:=⟨b12,0,none⟩) (v:=.slice none 0 0) (Ne.symm hne)).setO (p:=⟨b12,1,none⟩) (v:=.slice none 0 0) (Ne.symm hne)).setO (p:=⟨b12,2,none⟩) (v:=.slice none 0 0) (Ne.symm hne)).setO (p:=⟨b12,3,none⟩) (v:=.slice none 0 0) (Ne.symm hne);refine⟨h1.setO (p:=⟨b13,0,none⟩) hne,h2.setC (i:=0) (v:=u),fun B h12 h13=>?_,?_⟩
 ·exact(((((Br B w).setCell (p:=⟨b12,0,none⟩) h12 _).setCell (p:=⟨b12,1,none⟩) h12 _).setCell (p:=⟨b12,2,none⟩) h12 _).setCell (p:=⟨b12,3,none⟩) h12 _).setCell (p:=⟨b13,0,none⟩) h13 _
 ·exact((((KeepsOthers.setCell _ _ _).trans (KeepsOthers.setCell _ _ _)).trans (KeepsOthers.setCell _ _ _)).trans (KeepsOthers.setCell _ _ _)).trans (KeepsOthers.setCell _ _ _)
theorem dFb{w:World}{b12 b13:Nat}{v:Value}(hne:b12≠b13)(k12:aP w b12 dDz 30)(k13:aP w b13 #[v] 31)(v0 v1 v2 v3 u:Value)(w':World)
  (hw:w'=((((w.setCell ⟨b12,0,none⟩ v0).setCell ⟨b12,1,none⟩ v1).setCell ⟨b12,2,none⟩ v2).setCell ⟨b12,3,none⟩ v3).setCell ⟨b13,0,none⟩ u) :
  aP w' b12 #[v0,v1,v2,v3] 30/\aP w' b13 #[u] 31/\(∀B,B<=b12->B<=b13->Below B w w')/\KeepsOthers w w'/\∀T,T≠30->T≠31->dCk T w w':=by
 subst hw;have h1:=(((k12.setC (i:=0) (v:=v0)).setC (i:=1) (v:=v1)).setC (i:=2) (v:=v2)).setC (i:=3) (v:=v3);have h2:=(((k13.setO (p:=⟨b12,0,none⟩) (v:=v0) (Ne.symm hne)).setO (p:=⟨b12,1,none⟩) (v:=v1) (Ne.symm hne)).setO (p:=⟨b12,2,none⟩) (v:=v2) (Ne.symm hne)).setO (p:=⟨b12,3,none⟩) (v:=v3) (Ne.symm hne);refine⟨h1.setO (p:=⟨b13,0,none⟩) hne,h2.setC (i:=0) (v:=u),fun B h12 h13=>?_,?_,fun T n1 n2 b cs hb=>?_⟩
 ·exact(((((Br B w).setCell (p:=⟨b12,0,none⟩) h12 _).setCell (p:=⟨b12,1,none⟩) h12 _).setCell (p:=⟨b12,2,none⟩) h12 _).setCell (p:=⟨b12,3,none⟩) h12 _).setCell (p:=⟨b13,0,none⟩) h13 _
 ·exact((((KeepsOthers.setCell _ _ _).trans (KeepsOthers.setCell _ _ _)).trans (KeepsOthers.setCell _ _ _)).trans (KeepsOthers.setCell _ _ _)).trans (KeepsOthers.setCell _ _ _)
 ·have e1:b≠b12:=fun e=>by subst e;rw[k12.2] at hb;injection hb with hb;injection hb with _ hb;exact n1 hb.symm
  have e2:b≠b13:=fun e=>by subst e;rw[k13.2] at hb;injection hb with hb;injection hb with _ hb;exact n2 hb.symm
  rw[Deep.blk_setCell_other _ _ _ _ e2,Deep.blk_setCell_other _ _ _ _ e1,Deep.blk_setCell_other _ _ _ _ e1,Deep.blk_setCell_other _ _ _ _ e1,Deep.blk_setCell_other _ _ _ _ e1];exact hb
theorem dDy{w:World}{b:Nat}(k:aP w b dDz 30):(w.cell? ⟨b,0,none⟩=some (.slice none 0 0)/\w.cell? ⟨b,1,none⟩=some (.slice none 0 0)/\w.cell? ⟨b,2,none⟩=some (.slice none 0 0)/\w.cell? ⟨b,3,none⟩=some (.slice none 0 0)) /\
  w.frozen? ⟨b,0,none⟩=false/\w.frozen? ⟨b,1,none⟩=false/\w.frozen? ⟨b,2,none⟩=false/\w.frozen? ⟨b,3,none⟩=false :=
 ⟨⟨k.cell 0,k.cell 1,k.cell 2,k.cell 3⟩,aR k.2 0,aR k.2 1,aR k.2 2,aR k.2 3⟩
theorem dD0{W:World}{B0:Nat}{T:TypeId}{m n:Nat}{v:Value}{xs:List Value}(h:W.ownsRow B0 T m v n xs):∃a c,v=.slice a n c:=by
 obtain⟨_,⟨rfl,rfl⟩|⟨g,cap,cur,rfl,_⟩⟩:=h
 ·exact⟨_,_,rfl⟩
 ·exact⟨_,_,rfl⟩
theorem dIf:(prog.info? 30).map (·.size)=some dDz.size:=by kernel_rfl
theorem dGd(sb:Nat)(ins:List UInt8)(d wash:Int)(w:World):
  Calls prog 43 #[.pointer (some ⟨sb,0,none⟩),.string ⟨ins.toArray⟩,.int .i64 d,.int .i64 wash] w fun e w'=>e=.returned (.func (.func 84) #[] #[.pointer (some ⟨w.heap.size,0,none⟩),.pointer (some ⟨w.heap.size+1,0,none⟩),.pointer (some ⟨w.heap.size+2,0,none⟩),.pointer (some ⟨w.heap.size+3,0,none⟩)]) /\
   aP w' w.heap.size #[.pointer (some ⟨sb,0,none⟩)] 76/\aP w' (w.heap.size+1) #[.string ⟨ins.toArray⟩] 9/\aP w' (w.heap.size+2) #[.int .i64 d] 24/\aP w' (w.heap.size+3) #[.int .i64 wash] 3/\Below w.heap.size w w':=by
 obtain⟨w1,h1⟩:∃w1,w1=w.alloc (.cells #[.pointer (some ⟨sb,0,none⟩)] 76):=⟨_,rfl⟩
 obtain⟨w2,h2⟩:∃w2,w2=w1.alloc (.cells #[.string ⟨ins.toArray⟩] 9):=⟨_,rfl⟩
 obtain⟨w3,h3⟩:∃w3,w3=w2.alloc (.cells #[.int .i64 d] 24):=⟨_,rfl⟩
 obtain⟨w4,h4⟩:∃w4,w4=w3.alloc (.cells #[.int .i64 wash] 3):=⟨_,rfl⟩
 have e1:w1.heap.size=w.heap.size+1:=by rw[h1,World.size_alloc]
 have e2:w2.heap.size=w.heap.size+2:=by rw[h2,World.size_alloc,e1]
 have e3:w3.heap.size=w.heap.size+3:=by rw[h3,World.size_alloc,e2]
 have b2:Below w1.heap.size w1 w2:=by rw[h2];exact aB _ _
 have b3:Below w2.heap.size w2 w3:=by rw[h3];exact aB _ _
 have b4:Below w3.heap.size w3 w4:=by rw[h4];exact aB _ _
 have k1:aP w4 w.heap.size #[.pointer (some ⟨sb,0,none⟩)] 76:=(((h1 ▸ aP.new0 w _ _:aP w1 w.heap.size _ _).below b2).below b3).below b4;have k2:aP w4 (w.heap.size+1) #[.string ⟨ins.toArray⟩] 9:=by rw[<-e1];exact((h2 ▸ aP.new0 w1 _ _:aP w2 w1.heap.size _ _).below b3).below b4
 have k3:aP w4 (w.heap.size+2) #[.int .i64 d] 24:=by rw[<-e2];exact(h3 ▸ aP.new0 w2 _ _:aP w3 w2.heap.size _ _).below b4
 have k4:aP w4 (w.heap.size+3) #[.int .i64 wash] 3:=by rw[<-e3];exact h4 ▸ aP.new0 w3 _ _
 have hb:Below w.heap.size w w4:=aA (aA (aA (h1 ▸ aB _ _) b2) b3) b4;have HK:=Hd (And.intro k1 (And.intro k2 (And.intro k3 (And.intro k4 hb))));have HW:Hid (w4=(((w.alloc (.cells #[.pointer (some ⟨sb,0,none⟩)] 76)).alloc (.cells #[.string ⟨ins.toArray⟩] 9)).alloc (.cells #[.int .i64 d] 24)).alloc (.cells #[.int .i64 wash] 3)):=by show _=_;rw[h4,h3,h2,h1]
 clear k1 k2 k3 k4 hb b2 b3 b4 e1 e2 e3 h1 h2 h3 h4;go_enter func43,ntmps43;go_wp2;go_ret;rw[<-HW.out];exact⟨rfl,HK.out⟩
attribute [local go_sem] Oper.semAt_some
theorem dGj(ls:List Bd)(gs:List aLe)(la:Option Addr)(lc:Nat)(ga:Option Addr)(gc:Nat)(cause ins:List UInt8)(d wash:Int)(chk:Int)(w:World)(hE:iE w)(hl:ls.length<=1000000)(hg:gs.length<=1000000)(hL:Jj w la ls)(hG:aL3 w ga gs)
  (hchk:∀V sa sc,Below w.heap.size w V->dEj V sa [cause,ins]->Calls prog 40 #[.slice la ls.length lc,.slice ga gs.length gc,.int .i64 d,.int .i64 wash,.slice sa 2 sc] V fun e w'=>e=.returned (.int .i64 chk)/\Below V.heap.size V w')
  (hok:chk=0->dD8 ⟨ls,gs,[],0⟩/\dC cause=true/\0<=wash/\wash<=366) :
  Calls prog 11 #[.slice la ls.length lc,.slice ga gs.length gc,.string ⟨cause.toArray⟩,.int .i64 d,.string ⟨ins.toArray⟩,.int .i64 wash] w fun e W'=>((chk≠0/\e=.returned (.tuple #[.agg dDz,.int .i64 chk]))∨(chk=0/\∃r,bZm ins d wash cause ⟨ls,gs,[],0⟩ 0 r/\ApR W' w.heap.size d cause ins r e))/\Below w.heap.size w W':=by
 have HE:=Hd hE;have HCHK:=Hd hchk;have HOK:=Hd hok;have HLG:=Hd (And.intro hL hG);have HN:=Hd (And.intro hl hg);clear hE hchk hok hL hG hl hg;obtain⟨w1,h1⟩:∃w1,w1=w.alloc (.cells #[.string ⟨cause.toArray⟩] 9):=⟨_,rfl⟩
 obtain⟨w2,h2⟩:∃w2,w2=w1.alloc (.cells dDz 30):=⟨_,rfl⟩
 obtain⟨w3,h3⟩:∃w3,w3=w2.alloc (.cells #[.int .i64 0] 31):=⟨_,rfl⟩
 obtain⟨w4,h4⟩:∃w4,w4=w3.alloc (.cells #[.string ⟨cause.toArray⟩,.string ⟨ins.toArray⟩] 9):=⟨_,rfl⟩
 have e1:w1.heap.size=w.heap.size+1:=by rw[h1,World.size_alloc]
 have e2:w2.heap.size=w.heap.size+1+1:=by rw[h2,World.size_alloc,e1]
 have e3:w3.heap.size=w.heap.size+1+1+1:=by rw[h3,World.size_alloc,e2]
 have b2:Below w1.heap.size w1 w2:=by rw[h2];exact aB _ _
 have b3:Below w2.heap.size w2 w3:=by rw[h3];exact aB _ _
 have b4:Below w3.heap.size w3 w4:=by rw[h4];exact aB _ _
 have k8:aP w4 w.heap.size #[.string ⟨cause.toArray⟩] 9:=(((h1 ▸ aP.new0 w _ _:aP w1 w.heap.size _ _).below b2).below b3).below b4;have k12:aP w4 (w.heap.size+1) dDz 30:=by rw[<-e1];exact((h2 ▸ aP.new0 w1 _ _:aP w2 w1.heap.size _ _).below b3).below b4
 have k13:aP w4 (w.heap.size+1+1) #[.int .i64 0] 31:=by rw[<-e2];exact(h3 ▸ aP.new0 w2 _ _:aP w3 w2.heap.size _ _).below b4
 have kn:aP w4 (w.heap.size+1+1+1) #[.string ⟨cause.toArray⟩,.string ⟨ins.toArray⟩] 9:=by rw[<-e3];exact h4 ▸ aP.new0 w3 _ _
 have hb:Below w.heap.size w w4:=aA (aA (aA (h1 ▸ aB _ _) b2) b3) b4;have HK8:=Hd k8;have HK12:=Hd k12;have HK13:=Hd k13;have HB:=Hd hb;have HC:=Hd (HCHK.out w4 (some ⟨w.heap.size+1+1+1,0,none⟩) 2 hb (.inr ⟨_,rfl,kn.1,fun k s hs=>by
  match k,hs with
  |0,hs=>cases hs;exact kn.cell 0
  |1,hs=>cases hs;exact kn.cell 1
  |n+2,hs=>cases hs⟩))
 have HW:Hid (w4=(((w.alloc (.cells #[.string ⟨cause.toArray⟩] 9)).alloc (.cells #[.slice none 0 0,.slice none 0 0,.slice none 0 0,.slice none 0 0] 30)).alloc (.cells #[.int .i64 0] 31)).alloc (.cells #[.string ⟨cause.toArray⟩,.string ⟨ins.toArray⟩] 9)):=by show _=_;rw[h4,h3,h2,h1];rfl
 have HZI:Hid ((prog.info? 30).map (·.size)=some dDz.size):=dIf;have HZ1:=Hd (show dDz.all (·.oneCell')=true by simp[dDz,Value.oneCell']);clear h1 h2 h3 h4 e1 e2 e3 b2 b3 b4 k8 k12 k13 kn hb HCHK;refine(callsIn_wide (n:=3)).1 ?_;refine callsIn_of_wp_marks func11 rfl trivial ?_ rfl;simp only[ntmps11,List.size_toArray,List.length_cons,List.length_nil,Nat.reduceAdd,Nat.reduceSub,Array.replicate_succ,Array.replicate_zero,List.push_toArray,List.append_toArray,List.nil_append,List.cons_append];gi_wp2;rw[<-HW.out];refine⟨trivial,(callsIn_wide.2 HC.out).mono ?_⟩;rintro e w5 ⟨rfl,hb⟩;have HK8:=Hd (HK8.out.below hb);have HK12:=Hd (HK12.out.below hb);have HK13:=Hd (HK13.out.below hb);have HB5:=Hd (aA HB.out hb);clear hb HC HB HW w1 w2 w3
 by_cases hchk:chk=0
 ·obtain⟨FT,hcn,hw0,hw1⟩:=HOK.out hchk;subst hchk;have HFT:=Hd FT;have HCN:=Hd hcn;have HWS:=Hd (And.intro hw0 hw1);have HCL:=Hd (dDx ls la lc w5 HN.out.1 (HLG.out.1.below HB5.out));clear FT hcn hw0 hw1 HOK;gi_wp2_with fail;refine⟨trivial,(callsIn_wide.2 HCL.out).mono ?_⟩;rintro e w6 ⟨lv,rfl,ho6,hb⟩;obtain⟨a6,c6,rfl,_,_⟩:=dDb ho6;have HO6:=Hd (dDt ho6 HB5.out.size);have HK8:=Hd (HK8.out.below hb);have HK12:=Hd (HK12.out.below hb);have HK13:=Hd (HK13.out.below hb);have HB6:=Hd (aA HB5.out hb);clear hb HCL ho6 HB5;have HCL:=Hd (dE9 gs ga gc w6 HN.out.2 (HLG.out.2.below HB6.out));gi_wp2_with fail;refine⟨trivial,(callsIn_wide.2 HCL.out).mono ?_⟩;rintro e w7 ⟨gv,rfl,ho7,hb⟩;obtain⟨a7,c7,rfl,_,_⟩:=dDu ho7;have HO7:=Hd (dDt ho7 HB6.out.size);have HO6:=Hd ((dCk.of_below _ hb).owns HO6.out);have HK8:=Hd (HK8.out.below hb);have HK12:=Hd (HK12.out.below hb);have HK13:=Hd (HK13.out.below hb);have HB7:=Hd (aA HB6.out hb);clear hb HCL ho7 HB6;obtain⟨w8,h8⟩:∃w8,w8=w7.alloc (.cells #[.slice a6 ls.length c6,.slice a7 gs.length c7,.slice none 0 0,.string ⟨#[]⟩] 80):=⟨_,rfl⟩
  obtain⟨w9,h9⟩:∃w9,w9=w8.alloc (.cells #[.pointer (some ⟨w7.heap.size,0,none⟩)] 76):=⟨_,rfl⟩
  have e8:w8.heap.size=w7.heap.size+1:=by rw[h8,World.size_alloc]
  have b8:Below w7.heap.size w7 w8:=by rw[h8];exact aB _ _
  have b9:Below w8.heap.size w8 w9:=by rw[h9];exact aB _ _
  have hb:=aA b8 b9;have HST:Hid (dC1 w9 w.heap.size w7.heap.size (.slice a6 ls.length c6) (.slice a7 gs.length c7) (.slice none 0 0) ⟨ls,gs,[],0⟩) :=
   ⟨by have h:=(h8 ▸ aP.new0 w7 _ _:aP w8 w7.heap.size #[.slice a6 ls.length c6,.slice a7 gs.length c7,.slice none 0 0,.string ⟨#[]⟩] 80).below b9;exact h,HB7.out.size,(dCk.of_below _ hb).owns HO6.out,(dCk.of_below _ hb).owns HO7.out,⟨rfl,.inl ⟨rfl,rfl⟩⟩⟩
  have HK15:Hid (aP w9 (w7.heap.size+1) #[.pointer (some ⟨w7.heap.size,0,none⟩)] 76):=by show aP _ _ _ _;rw[<-e8];exact h9 ▸ aP.new0 w8 _ _
  have HW9:Hid (w9=(w7.alloc (.cells #[.slice a6 ls.length c6,.slice a7 gs.length c7,.slice none 0 0,.string ⟨#[]⟩] 80)).alloc (.cells #[.pointer (some ⟨w7.heap.size,0,none⟩)] 76)):=by show _=_;rw[h9,h8]
  have HK8:=Hd (HK8.out.below hb);have HK12:=Hd (HK12.out.below hb);have HK13:=Hd (HK13.out.below hb);have HB9:=Hd (aA HB7.out hb);have HPP:=Hd (dGd w7.heap.size ins d wash w9);clear hb h8 h9 e8 b8 b9 HO6 HO7 HB7 w8 HLG HN;gi_wp2_with fail;rw[<-HW9.out];refine⟨trivial,(callsIn_wide.2 HPP.out).mono ?_⟩;rintro e wa ⟨rfl,p1,p2,p3,p4,hb⟩;have HSZ:=Hd (show w.heap.size<=w9.heap.size/\w.heap.size+1+1<w9.heap.size from⟨HB9.out.size,HK13.out.1⟩);obtain⟨C,hC⟩:∃C:ApC,C=⟨w,w7.heap.size,w.heap.size,w.heap.size+1,w.heap.size+1+1,w7.heap.size+1,w9.heap.size,w9.heap.size+1,w9.heap.size+2,w9.heap.size+3,cause,ins,d,wash,gs.length,⟨ls,gs,[],0⟩⟩:=⟨_,rfl⟩
  have HAT:Hid (C.At ⟨ls,gs,[],0⟩ 0 wa):=by
   rw[hC];exact⟨⟨aA HB9.out hb,HK8.out.below hb,HK12.out.below hb,HK13.out.below hb,HK15.out.below hb,p1,p2,p3,p4⟩,⟨_,_,_,HST.out.below hb⟩,HFT.out,rfl,fun r h=>h⟩
  have HBA:=Hd (aA HB9.out hb);clear p1 p2 p3 p4 hb HK8 HK12 HK13 HK15 HST HPP HW9 HB9 HFT;have q0:C.w0=w:=by rw[hC]
  have q1:C.sb=w7.heap.size:=by rw[hC]
  have q2:C.b8=w.heap.size:=by rw[hC]
  have q3:C.b12=w.heap.size+1:=by rw[hC]
  have q4:C.b13=w.heap.size+1+1:=by rw[hC]
  have q5:C.b15=w7.heap.size+1:=by rw[hC]
  have q6:C.bs=w9.heap.size/\C.bn=w9.heap.size+1/\C.bd=w9.heap.size+2/\C.bw=w9.heap.size+3:=by rw[hC];exact⟨rfl,rfl,rfl,rfl⟩
  have q7:C.cause=cause/\C.ins=ins/\C.d=d/\C.wash=wash/\C.N=gs.length/\C.s0=⟨ls,gs,[],0⟩:=by rw[hC];exact⟨rfl,rfl,rfl,rfl,rfl,rfl⟩
  have HEC:Hid (iE C.w0):=by show iE _;rw[q0];exact HE.out
  have HCC:Hid (dC C.cause=true):=by show _=_;rw[q7.1];exact HCN.out
  have HWC:Hid (-1000<=C.wash/\C.wash<=1000):=by have:=HWS.out;show _/\_;rw[q7.2.2.2.1];omega
  have hle:C.w0.heap.size<=wa.heap.size:=by rw[q0];exact HBA.out.size
  have HQ:=Hd (And.intro q0 (And.intro q1 (And.intro q2 (And.intro q3 (And.intro q4 (And.intro q5 (And.intro q6 q7)))))));clear hC q0 q1 q2 q3 q4 q5 q6 q7 HE HCN HWS;gi_wp2;refine dGr (P:=prog) (n:=3) (gf:=84) (lb:=#[.pointer (some ⟨w9.heap.size,0,none⟩),.pointer (some ⟨w9.heap.size+1,0,none⟩),.pointer (some ⟨w9.heap.size+2,0,none⟩),.pointer (some ⟨w9.heap.size+3,0,none⟩)]) rfl (aXb func84)
   WIt.enc (fun _=>rfl) C.I C.I' C.Ix (C.ownI _ hle) (C.ownI' _ hle) (C.ownIx _ hle) ⟨⟨ls,gs,[],0⟩,some ⟨ls,gs,[],0⟩,0,0,⟨[],[],[],0,0,[],[],[],[],[]⟩,⟨[],[],0,0,[],[],[]⟩,0,true⟩ ⟨⟨_,rfl,HAT.out⟩,fun e=>by cases e⟩ (fun b=>b.i=C.N) [(16,0),(17,1)] ?assign ?body ?iter ?done ?stop
  case assign =>
   intro l b W K hK;simp[a1W,WIt.enc,List.foldl] at hK;simp only[WIt.enc];gi_wp2;exact hK
  case body =>
   intro l b W hI;have HREP:=Hd (C.repl HEC.out HCC.out hI);have k15:=hI.at_.mem.k15.cell 0;have k8:=hI.at_.mem.k8.cell 0;rw[HQ.out.2.2.2.2.2.1] at k15;rw[HQ.out.2.2.1] at k8;have hk15:W.cell? ⟨w7.heap.size+1,0,none⟩=some (.pointer (some ⟨C.sb,0,none⟩)):=k15;have hk8:W.cell? ⟨w.heap.size,0,none⟩=some (.string ⟨C.cause.toArray⟩):=k8;clear k15 k8 hI;simp only[a1W,WIt.enc,List.foldl];gi_wp2_with fail;refine⟨trivial,CallsIn.inRound l ((callsIn_wide.2 HREP.out).mono ?_)⟩;rintro e W2 ⟨⟨s',hs',rfl,hI2⟩|⟨hnone,rfl,hM,hE2⟩,hk⟩
   ·gi_wp2;exact hk.others
   ·have k12:=hM.k12;have k13:=hM.k13;rw[HQ.out.2.2.2.1] at k12;rw[HQ.out.2.2.2.2.1] at k13;have K12:Hid (aP W2 (w.heap.size+1) dDz 30):=k12;have K13:Hid (aP W2 (w.heap.size+1+1) #[.int .i64 0] 31):=k13;have HM:=Hd hM;have HEE:=Hd hE2;have HKK:=Hd hk;clear k12 k13 hM hE2 hk;have f13:=aR K13.out.2 0;have c13:=K13.out.cell 0;obtain⟨⟨z0,z1,z2,z3⟩,y0,y1,y2,y3⟩:=dDy K12.out;obtain⟨w6,hw6⟩:∃w6,w6=((((W2.setCell ⟨w.heap.size+1,0,none⟩ (.slice none 0 0)).setCell ⟨w.heap.size+1,1,none⟩ (.slice none 0 0)).setCell ⟨w.heap.size+1,2,none⟩ (.slice none 0 0)).setCell ⟨w.heap.size+1,3,none⟩ (.slice none 0 0)).setCell ⟨w.heap.size+1+1,0,none⟩ (.int .i64 4):=⟨_,rfl⟩
    have HF:=Hd (dE2 (by omega) K12.out K13.out (.int .i64 4) w6 hw6);have HW6:=Hd hw6;clear hw6;gi_wp2;rw[<-HW6.out];refine⟨HKK.out.others.trans HF.out.2.2.2,⟨HM.out.below.trans (HF.out.2.2.1 _ ?_ ?_),?_,?_,HEE.out⟩⟩
    ·rw[HQ.out.1];omega
    ·rw[HQ.out.1];omega
    ·rw[HQ.out.2.2.2.1];exact HF.out.1
    ·rw[HQ.out.2.2.2.2.1];exact HF.out.2.1
  case iter =>
   intro l R Rx W1 hR _ hY h0 hR0;have h:=C.iter HEC.out HWC.out 2 l R Rx W1 hR hY _ rfl h0 hR0;rw[HQ.out.2.2.2.2.2.2.1.1,HQ.out.2.2.2.2.2.2.1.2.1,HQ.out.2.2.2.2.2.2.1.2.2.1,HQ.out.2.2.2.2.2.2.1.2.2.2] at h;exact h
  case done =>
   intro D b W hD hb hI hK;obtain⟨⟨s,hs,hA⟩,_⟩:=hI;obtain⟨lv,gv,tv,hst⟩:=hA.st;obtain⟨xa,xc,rfl⟩:=dD0 hst.lots;obtain⟨ya,yc,rfl⟩:=dD0 hst.gains;obtain⟨za,zc,rfl⟩:=dD0 hst.steps;have hend:bZm ins d wash cause ⟨ls,gs,[],0⟩ 0 (some s):=by
    have h:=hA.reach (some s) (.done (by rw[hA.len,hb];exact Nl _));rw[HQ.out.2.2.2.2.2.2.2.1,HQ.out.2.2.2.2.2.2.2.2.1,HQ.out.2.2.2.2.2.2.2.2.2.1,HQ.out.2.2.2.2.2.2.2.2.2.2.1,HQ.out.2.2.2.2.2.2.2.2.2.2.2.2] at h;exact h
   have hm:=hA.mem;have k8:=hm.k8;have k12:=hm.k12;have k13:=hm.k13;have k15:=hm.k15;have hB:=hm.below;rw[HQ.out.1] at hst hB;rw[HQ.out.2.1] at hst k15;rw[HQ.out.2.2.1,HQ.out.2.2.2.2.2.2.2.1] at k8;rw[HQ.out.2.2.2.1] at k12;rw[HQ.out.2.2.2.2.1] at k13;rw[HQ.out.2.2.2.2.2.1] at k15;have HEND:=Hd hend;have HST:=Hd hst;have HK8:=Hd k8;have HK12:=Hd k12;have HK13:=Hd k13;have HK15:=Hd k15;have HBW:=Hd hB;have HKD:=Hd hK;clear hend hst k8 k12 k13 k15 hB hK hm hA hs hb;have c15:=HK15.out.cell 0;have s0:=HST.out.box.cell 0;have s1:=HST.out.box.cell 1;have s2:=HST.out.box.cell 2;have s3:=HST.out.box.cell 3;gi_wp2_with fail;refine dHg (ro:=none) (C:=⟨W.drewN 1,w7.heap.size+1,w7.heap.size,xa,s.lots.length,xc,ya,s.gains.length,yc,za,s.steps.length,zc,.string ⟨(aJ s.sum).toArray⟩⟩) ?M rfl rfl rfl ?_
   case M=>exact⟨rfl,rfl,HK15.out,HST.out.box⟩
   intro V hbv hrb;have hbv:Below W.heap.size W V:=aA (aD (Br W.heap.size W) 1) hbv;obtain⟨rb,hrbe⟩:∃rb,rb=W.heap.size:=⟨_,rfl⟩
   have hrb:aP V rb #[.slice xa s.lots.length xc,.slice ya s.gains.length yc,.slice za s.steps.length zc,.slice none 0 0] 30:=by rw[hrbe];exact hrb
   have HRB:Hid (w.heap.size+1≠rb):=by have:=HK12.out.1;show _≠_;omega
   have HRB2:Hid (w.heap.size<=rb/\rb≠w.heap.size+1/\rb≠w.heap.size+1+1/\rb≠w7.heap.size+1/\rb≠w7.heap.size/\rb≠w.heap.size):=by
    have:=HK12.out.1;have:=HK13.out.1;have:=HK15.out.1;have:=HST.out.box.1;have:=HK8.out.1;have:=HBW.out.size;show _/\_;omega
   have KR:=Hd hrb;have HST:=Hd (HST.out.below hbv);have K8:=Hd (HK8.out.below hbv);have K12:=Hd (HK12.out.below hbv);have K13:=Hd (HK13.out.below hbv);have K15:=Hd (HK15.out.below hbv);have HKD:Hid (V.heap[D]?=some (.deferred (some []))):=by have h:=(hbv.block D (Ai.1 HKD.out).1).trans HKD.out;exact h
   have HBW:=Hd (HBW.out.trans (hbv.mono HBW.out.size));simp only[iZ,dG1,List.foldl,List.setIfInBounds_toArray,List.set_cons_zero,List.set_cons_succ,dDc.val];rw[show (Value.pointer (some ⟨(W.drewN 1).heap.size,0,none⟩))=.pointer (some ⟨rb,0,none⟩) by rw[hrbe];rfl];clear hbv hrb hrbe c15 s0 s1 s2 s3 HK8 HK12 HK13 HK15;have c15:=K15.out.cell 0;have s3:=HST.out.box.cell 3;have hz:s.sum=0↔aJ s.sum=[]:=⟨fun h=>by rw[h];exact nA,dBp⟩
   have HZ:=Hd hz;clear hz;cases hss:aJ s.sum with
   |nil =>
    rw[hss] at s3;have HSS:=Hd hss;clear hss;have f13:=aR K13.out.2 0;have c13:=K13.out.cell 0;obtain⟨⟨z0,z1,z2,z3⟩,y0,y1,y2,y3⟩:=dDy K12.out;have r0:=KR.out.cell 0;have r1:=KR.out.cell 1;have r2:=KR.out.cell 2;have r3:=KR.out.cell 3;have hne:w.heap.size+1≠rb:=HRB.out;obtain⟨w6,hw6⟩:∃w6,w6=((((V.setCell ⟨w.heap.size+1,0,none⟩ (.slice xa s.lots.length xc)).setCell ⟨w.heap.size+1,1,none⟩ (.slice ya s.gains.length yc)).setCell ⟨w.heap.size+1,2,none⟩ (.slice za s.steps.length zc)).setCell ⟨w.heap.size+1,3,none⟩ (.slice none 0 0)).setCell ⟨w.heap.size+1+1,0,none⟩ (.int .i64 0):=⟨_,rfl⟩
    have hr:=dFb (by omega) K12.out K13.out (.slice xa s.lots.length xc) (.slice ya s.gains.length yc) (.slice za s.steps.length zc) (.slice none 0 0) (.int .i64 0) w6 hw6;have HW6:=Hd hw6;have hkd:w6.heap[D]?=some (.deferred (some [])):=hr.2.2.2.1.same _ _ HKD.out rfl;have hkp:=dDp (grownBy_putObj' w6 D (.deferred none)) (fun r e=>by cases e;exact⟨_,hkd,rfl⟩);have K12F:=Hd ((hkp _).box hr.1);have K13F:=Hd ((hkp _).box hr.2.1);have HTK:=Hd (fun T n1 n2=>(hr.2.2.2.2 T n1 n2).trans (hkp T));have HBF:=Hd ((HBW.out.trans (hr.2.2.1 _ (by omega) (by omega))).trans (belowK_b (w:=w) (Nl _) w6 D _ (.deferred none) (Nat.le_trans HBA.out.size hD) hkd rfl rfl));have HKDF:=Hd hkd;clear hw6 hr hkp hkd;gi_wp2;rw[<-HW6.out];refine⟨by simp,.inl ⟨_,_,rfl,run_takeDeferred HKDF.out,?_⟩⟩;refine⟨_,dDn results11 _ _ ⟨w.heap.size+1,0,none⟩ ⟨w.heap.size+1+1,0,none⟩ _ (.int .i64 0) rfl rfl (run_loadVar_row _ _ _ _ _ _ _ K12F.out.2 underlying30 rfl HZI.out) (dD1 (K13F.out.cell 0)),?_⟩;exact⟨⟨some s,HEND.out,_,rfl,_,_,_,_,rfl,(HTK.out _ (by decide) (by decide)).owns HST.out.lots,(HTK.out _ (by decide) (by decide)).owns HST.out.gains,(HTK.out _ (by decide) (by decide)).owns HST.out.steps,.inl ⟨HZ.out.2 HSS.out,rfl⟩⟩,HBF.out⟩
   |cons ch cr =>
    have HSS:=Hd hss;rw[hss] at s3;clear hss;gi_wp2_with fail;refine dHf (ro:=none) (C:=⟨V.drewN 1,w.heap.size,w7.heap.size+1,w7.heap.size,rb,.slice xa s.lots.length xc,.slice ya s.gains.length yc,.slice za s.steps.length zc,.slice xa s.lots.length xc,.slice ya s.gains.length yc,.slice za s.steps.length zc,ch::cr,cause,ins,d⟩) ?M rfl rfl rfl ?_
    case M=>exact⟨rfl,rfl,rfl,rfl,rfl,rfl,K8.out,K15.out,by have h:=HST.out.box;rw[HSS.out] at h;exact h,KR.out⟩
    obtain⟨VA,hVA⟩:∃VA,VA=((V.drewN 1).alloc (.cells #[.string ⟨#[97,109,111,117,110,116]⟩,.string ⟨(ch::cr).toArray⟩] 65)).alloc (.cells #[.int .i64 5,.int .i64 d,.string ⟨cause.toArray⟩,.string ⟨ins.toArray⟩,.string ⟨#[]⟩,.string ⟨#[]⟩,.slice (some ⟨V.heap.size,0,none⟩) 1 1] 62):=⟨_,rfl⟩
    obtain⟨V2,hV2⟩:∃V2,V2=VA.setCell ⟨rb,3,none⟩ (.slice (some ⟨V.heap.size+1,0,none⟩) 1 1):=⟨_,rfl⟩
    have eV:(V.drewN 1).heap.size=V.heap.size:=rfl;have hA:Below V.heap.size V VA:=by rw[hVA];exact aA (aA (aD (Br V.heap.size V) 1) (aB _ _)) (aB _ _)
    have hT:aP VA V.heap.size #[.string ⟨#[97,109,111,117,110,116]⟩,.string ⟨(ch::cr).toArray⟩] 65:=by rw[hVA];exact(aP.new0 (V.drewN 1) _ _).below (aB _ _)
    have hE:aP VA (V.heap.size+1) #[.int .i64 5,.int .i64 d,.string ⟨cause.toArray⟩,.string ⟨ins.toArray⟩,.string ⟨#[]⟩,.string ⟨#[]⟩,.slice (some ⟨V.heap.size,0,none⟩) 1 1] 62:=by
     have h:=aP.new0 ((V.drewN 1).alloc (.cells #[.string ⟨#[97,109,111,117,110,116]⟩,.string ⟨(ch::cr).toArray⟩] 65)) #[.int .i64 5,.int .i64 d,.string ⟨cause.toArray⟩,.string ⟨ins.toArray⟩,.string ⟨#[]⟩,.string ⟨#[]⟩,.slice (some ⟨V.heap.size,0,none⟩) 1 1] 62;rw[World.size_alloc,eV] at h;rw[hVA];exact h
    have hR:=KR.out.below hA;have hrl:=KR.out.1;have hkt:∀T,T≠30->dCk T V V2:=fun T n1=>(dCk.of_below T hA).trans (by rw[hV2];exact dCk.of_grown (Ne.symm n1) ⟨_,hR.2⟩ (dCt _ _ _ _))
    have hbb:Below w.heap.size w V2:=by rw[hV2];exact(HBW.out.trans (hA.mono HBW.out.size)).setCell (p:=⟨rb,3,none⟩) HRB2.out.1 _
    have hD2:V2.heap[D]?=some (.deferred (some [])):=by
     have h1:=(hA.block D (Ai.1 HKD.out).1).trans HKD.out;rw[hV2];exact(KeepsOthers.setCell _ _ _).same _ _ h1 rfl
    have KTm:Hid (aP V2 V.heap.size #[.string ⟨#[97,109,111,117,110,116]⟩,.string ⟨(ch::cr).toArray⟩] 65):=by show aP _ _ _ _;rw[hV2];exact hT.setO (by show V.heap.size≠rb;omega)
    have KE:Hid (aP V2 (V.heap.size+1) #[.int .i64 5,.int .i64 d,.string ⟨cause.toArray⟩,.string ⟨ins.toArray⟩,.string ⟨#[]⟩,.string ⟨#[]⟩,.slice (some ⟨V.heap.size,0,none⟩) 1 1] 62):=by show aP _ _ _ _;rw[hV2];exact hE.setO (by show V.heap.size+1≠rb;omega)
    have KR:Hid (aP V2 rb #[.slice xa s.lots.length xc,.slice ya s.gains.length yc,.slice za s.steps.length zc,.slice (some ⟨V.heap.size+1,0,none⟩) 1 1] 30):=by show aP _ _ _ _;rw[hV2];exact hR.setC (i:=3) (v:=.slice (some ⟨V.heap.size+1,0,none⟩) 1 1)
    have K12:Hid (aP V2 (w.heap.size+1) dDz 30):=by show aP _ _ _ _;rw[hV2];exact(K12.out.below hA).setO (by show w.heap.size+1≠rb;exact HRB.out)
    have K13:=Hd ((hkt _ (by decide)).box K13.out);have HST:Hid (dC1 V2 w.heap.size w7.heap.size (.slice xa s.lots.length xc) (.slice ya s.gains.length yc) (.slice za s.steps.length zc) s):=⟨(hkt _ (by decide)).box HST.out.box,HST.out.le,(hkt _ (by decide)).owns HST.out.lots,(hkt _ (by decide)).owns HST.out.gains,(hkt _ (by decide)).owns HST.out.steps⟩
    have hVle:w.heap.size<=V.heap.size:=HBW.out.size;have HBW:=Hd hbb;have HKD:=Hd hD2;have HV2:Hid (V2=(((V.drewN 1).alloc (.cells #[.string ⟨#[97,109,111,117,110,116]⟩,.string ⟨(ch::cr).toArray⟩] 65)).alloc (.cells #[.int .i64 5,.int .i64 d,.string ⟨cause.toArray⟩,.string ⟨ins.toArray⟩,.string ⟨#[]⟩,.string ⟨#[]⟩,.slice (some ⟨V.heap.size,0,none⟩) 1 1] 62)).setCell ⟨rb,3,none⟩ (.slice (some ⟨V.heap.size+1,0,none⟩) 1 1)):=by show _=_;rw[hV2,hVA]
    clear hV2 hVA hA hT hE hR hkt hbb hD2 eV c15 s3;simp only[iZ,dG0,List.foldl,List.setIfInBounds_toArray,List.set_cons_zero,List.set_cons_succ,dC6.val];refine Eq.mpr (congrArg _ HV2.out.symm) ?_;have f13:=aR K13.out.2 0;have c13:=K13.out.cell 0;obtain⟨⟨z0,z1,z2,z3⟩,y0,y1,y2,y3⟩:=dDy K12.out;have r0:=KR.out.cell 0;have r1:=KR.out.cell 1;have r2:=KR.out.cell 2;have r3:=KR.out.cell 3;have hne:w.heap.size+1≠rb:=HRB.out;obtain⟨w6,hw6⟩:∃w6,w6=((((V2.setCell ⟨w.heap.size+1,0,none⟩ (.slice xa s.lots.length xc)).setCell ⟨w.heap.size+1,1,none⟩ (.slice ya s.gains.length yc)).setCell ⟨w.heap.size+1,2,none⟩ (.slice za s.steps.length zc)).setCell ⟨w.heap.size+1,3,none⟩ (.slice (some ⟨V.heap.size+1,0,none⟩) 1 1)).setCell ⟨w.heap.size+1+1,0,none⟩ (.int .i64 0):=⟨_,rfl⟩
    have hr:=dFb (by omega) K12.out K13.out (.slice xa s.lots.length xc) (.slice ya s.gains.length yc) (.slice za s.steps.length zc) (.slice (some ⟨V.heap.size+1,0,none⟩) 1 1) (.int .i64 0) w6 hw6;have HW6:=Hd hw6;have hkd:w6.heap[D]?=some (.deferred (some [])):=hr.2.2.2.1.same _ _ HKD.out rfl;have hkp:=dDp (grownBy_putObj' w6 D (.deferred none)) (fun r e=>by cases e;exact⟨_,hkd,rfl⟩);have K12F:=Hd ((hkp _).box hr.1);have K13F:=Hd ((hkp _).box hr.2.1);have HTK:=Hd (fun T n1 n2=>(hr.2.2.2.2 T n1 n2).trans (hkp T));have HBF:=Hd ((HBW.out.trans (hr.2.2.1 _ (by omega) (by omega))).trans (belowK_b (w:=w) (Nl _) w6 D _ (.deferred none) (Nat.le_trans HBA.out.size hD) hkd rfl rfl));have HKDF:=Hd hkd;clear hw6 hr hkp hkd;gi_wp2;rw[<-HW6.out];refine⟨by simp,.inl ⟨_,_,rfl,run_takeDeferred HKDF.out,?_⟩⟩;refine⟨_,dDn results11 _ _ ⟨w.heap.size+1,0,none⟩ ⟨w.heap.size+1+1,0,none⟩ _ (.int .i64 0) rfl rfl (run_loadVar_row _ _ _ _ _ _ _ K12F.out.2 underlying30 rfl HZI.out) (dD1 (K13F.out.cell 0)),?_⟩;exact⟨⟨some s,HEND.out,_,rfl,_,_,_,_,rfl,(HTK.out _ (by decide) (by decide)).owns HST.out.lots,(HTK.out _ (by decide) (by decide)).owns HST.out.gains,(HTK.out _ (by decide) (by decide)).owns HST.out.steps,.inr ⟨fun h=>(by have:=HZ.out.1 h;rw[HSS.out] at this;cases this),V.heap.size+1,V.heap.size,rfl,by omega,by omega,by rw[HSS.out];exact(HTK.out _ (by decide) (by decide)).box KTm.out,(HTK.out _ (by decide) (by decide)).box KE.out⟩⟩,HBF.out⟩
  case stop =>
   intro D b W hD hI hK;have k12:=hI.k12;have k13:=hI.k13;have hB:=hI.below;have hend:=hI.ends;rw[HQ.out.1] at hB;rw[HQ.out.2.2.2.1] at k12;rw[HQ.out.2.2.2.2.1] at k13;rw[HQ.out.2.2.2.2.2.2.2.1,HQ.out.2.2.2.2.2.2.2.2.1,HQ.out.2.2.2.2.2.2.2.2.2.1,HQ.out.2.2.2.2.2.2.2.2.2.2.1,HQ.out.2.2.2.2.2.2.2.2.2.2.2.2] at hend;have hkp:=dDp (grownBy_putObj' W D (.deferred none)) (fun r e=>by cases e;exact⟨_,hK,rfl⟩);have K12:=Hd ((hkp _).box k12);have K13:=Hd ((hkp _).box k13);have HEND:=Hd hend;have HBW:=Hd hB;have HKD:=Hd hK;have HDD:=Hd (show w.heap.size<=D from Nat.le_trans HBA.out.size hD);clear hI k12 k13 hB hend hkp hK;gi_wp2;refine⟨by simp,.inl ⟨_,_,rfl,run_takeDeferred HKD.out,?_⟩⟩;refine⟨_,dDn results11 _ _ ⟨w.heap.size+1,0,none⟩ ⟨w.heap.size+1+1,0,none⟩ (.agg dDz) (.int .i64 4) rfl rfl (run_loadVar_row _ _ _ _ _ _ _ K12.out.2 underlying30 rfl HZI.out) (dD1 (K13.out.cell 0)),?_⟩;exact⟨⟨none,HEND.out,rfl⟩,HBW.out.trans (belowK_b (w:=w) (Nl _) W D _ _ HDD.out HKD.out rfl rfl)⟩
 ·have f13:=aR HK13.out.2 0;have c13:=HK13.out.cell 0;obtain⟨⟨z0,z1,z2,z3⟩,y0,y1,y2,y3⟩:=dDy HK12.out;obtain⟨w6,hw6⟩:∃w6,w6=((((w5.setCell ⟨w.heap.size+1,0,none⟩ (.slice none 0 0)).setCell ⟨w.heap.size+1,1,none⟩ (.slice none 0 0)).setCell ⟨w.heap.size+1,2,none⟩ (.slice none 0 0)).setCell ⟨w.heap.size+1,3,none⟩ (.slice none 0 0)).setCell ⟨w.heap.size+1+1,0,none⟩ (.int .i64 chk):=⟨_,rfl⟩
  have HF:=Hd (dE2 (by omega) HK12.out HK13.out (.int .i64 chk) w6 hw6);have HW6:=Hd hw6;clear hw6;gi_wp2;rw[<-HW6.out];refine⟨_,dDn results11 _ _ ⟨w.heap.size+1,0,none⟩ ⟨w.heap.size+1+1,0,none⟩ (.agg dDz) (.int .i64 chk) rfl rfl (run_loadVar_row _ _ _ _ _ _ _ HF.out.1.2 underlying30 rfl HZI.out) (dD1 (HF.out.2.1.cell 0)),?_⟩;exact⟨.inl ⟨hchk,rfl⟩,HB5.out.trans (HF.out.2.2.1 _ (by omega) (by omega))⟩
end Go.Proofs.YtiloklnjjfaagaaGreatDoor
