/- Kinds5 -/
import Derived.Test.YtejkibnaidiklaaGreatDoorJKinds4
set_option maxHeartbeats 16000000
set_option maxRecDepth 100000
namespace Go.Proofs.YtejkibnaidiklaaGreatDoor
open Tryz
open Go Go.RowKit Go.Maps Go.MapKept Go.WideElems
def nU(w:World)(v:Value)(pq:Bool×Bool):Prop:=∃bp bq,v=.func (.func 233) #[] #[.pointer (some ⟨bp,0,none⟩),.pointer (some ⟨bq,0,none⟩)]/\aP w bp #[.bool pq.1] 4/\aP w bq #[.bool pq.2] 4
def oG(w:World)(v:Value)(k:bH):Prop:=∃mv,v=.agg (aK k.word k.cls k.has (.map mv) k.code)/\((mv=none/\k.nums=[])∨∃b kvs,mv=some b/\eL w b kvs/\rY (nU w) k.nums kvs/\∀q,q∈k.nums->∃p,p∈kvs/\p.1=q.1)
def pQ(w:World)(b:Nat):Prop:=∃kvs,eL w b kvs/\(∀p,p∈kvs->∃q,q∈aX/\p.1=q.1/\oG w p.2 q.2)/\∀q,q∈aX->∃p,p∈kvs/\p.1=q.1
theorem nU.below{w w':World}{v:Value}{pq:Bool×Bool}(h:nU w v pq)(hb:Below w.heap.size w w'):nU w' v pq:=by
 obtain⟨bp,bq,e,h1,h2⟩:=h;exact⟨bp,bq,e,h1.below hb,h2.below hb⟩
theorem oG.below{w w':World}{v:Value}{k:bH}(h:oG w v k)(hb:Below w.heap.size w w'):oG w' v k:=by
 obtain⟨mv,e,h⟩:=h;refine⟨mv,e,h.imp id ?_⟩;rintro⟨b,kvs,e,h1,h2,h3⟩;exact⟨b,kvs,e,h1.below hb,h2.mono fun v pq h=>h.below hb,h3⟩
theorem pQ.below{w w':World}{b:Nat}(h:pQ w b)(hb:Below w.heap.size w w'):pQ w' b:=by
 obtain⟨kvs,h1,h2,h3⟩:=h;refine⟨kvs,h1.below hb,fun p hp=>?_,h3⟩;obtain⟨q,hq,e,hk⟩:=h2 p hp;exact⟨q,hq,e,hk.below hb⟩
theorem lV.at{w:World}{h:bD}(ht:iF w h){v:Value}{pq:Bool×Bool}(H:lV h v pq):nU w v pq:=by
 obtain⟨bp,bq,e,h1,h2⟩:=H;exact⟨bp,bq,e,ht _ _ h1,ht _ _ h2⟩
theorem qX.at{w:World}{h:bD}(ht:iF w h){v:Value}{k:bH}(H:qX h v k):oG w v k:=by
 obtain⟨mv,e,H⟩:=H;refine⟨mv,e,H.imp id ?_⟩;rintro⟨b,e,hb⟩;obtain⟨kvs,g1,g2,g3⟩:=ht _ _ hb;exact⟨b,kvs,e,g1.1,g2.mono fun v pq h=>h.at ht,g3⟩
theorem KI.end{w0 w:World}{b1 b3 bt:Nat}{VP VL:Value}{l:Array Bool}{a:Act}(H:KN w0 b1 b3 bt VP VL l a w)(hall:∀i,i<124->on l i):∃bm,a.tmps[0]?=some (.map (some bm))/\pQ w bm/\Below w0.heap.size w0 w/\a.defers=[]:=by
 obtain⟨h,H⟩:=H;obtain⟨⟨v,k1,k2⟩,_,_⟩:=H.facts 123 0 (.osame 15) (by kernel_rfl) (hall 123 (by decide));obtain⟨b,ks,g1,g2,g3⟩:=H.outs 0 15 (by kernel_rfl) (hall 0 (by decide));obtain rfl:v=.map (some b):=Option.some.inj (k2.symm.trans g1);obtain⟨kvs,m1,m2,m3⟩:=H.ty _ _ g2;refine⟨b,k1,⟨kvs,m1,fun p hp=>?_,fun q hq=>?_⟩,H.hb,H.df⟩
 ·obtain⟨q,hq,e,hk⟩:=m2 p hp;exact⟨q,hq,e,hk.at H.ty⟩
 ·have hin:∃(i s:Nat),dK[i]?=some (s,Df.oins q.1):=by
   have h1:(aX.all fun q=>(List.range 124).any fun i=>match dK[i]? with|some (_,Df.oins n)=>n==q.1|_=>false)=true:=by decide +kernel
   obtain⟨i,_,hi⟩:=List.any_eq_true.1 (List.all_eq_true.1 h1 q hq);split at hi
   ·rename_i s n hx;exact⟨i,s,by rw[hx];simp at hi;rw[hi]⟩
   ·cases hi
  obtain⟨i,s,hi⟩:=hin;have hlt:=(Li.1 hi).1;have:=(g3 i s q.1 hi).1 (hall i (oK ▸ hlt));rw[<-m3] at this;obtain⟨p,hp,e⟩:=List.mem_map.1 this;exact⟨p,hp,e⟩
theorem Is(p q:Bool)(w:World):
  Calls prog 178 #[.bool p,.bool q] w fun e w'=>e=.returned (.func (.func 233) #[] #[.pointer (some ⟨w.heap.size,0,none⟩),.pointer (some ⟨w.heap.size+1,0,none⟩)])/\aP w' w.heap.size #[.bool p] 4/\aP w' (w.heap.size+1) #[.bool q] 4/\w'.heap.size=w.heap.size+2/\Below w.heap.size w w':=by
 refine(uH p q w).mono ?_;rintro e w' ⟨rfl,rfl⟩;refine⟨rfl,(aP.new0 w _ _).below (aB _ _),?_,by simp,((Br _ _).alloc (Nl _) _).alloc (by simp) _⟩;have h:=aP.new0 (w.alloc (.cells #[.bool p] 4)) #[.bool q] 4;rw[World.size_alloc] at h;exact h
theorem Cq(w:World):
  Calls prog 125 #[] w fun e w'=>∃bm,e=.returned (.map (some bm))/\pQ w' bm/\Below w.heap.size w w':=by
 have hmm:=@run_makeMap prog;go_enter func125,ntmps125;go_wp2_with fail;refine(Is true false _).mono ?_;rintro e w1 ⟨rfl,P1,Q1,hs1,hb1⟩;have P1:=Hd P1;have Q1:=Hd Q1;have hb1:=Hd hb1;have HS1:=Hd hs1;clear hs1;go_wp2_with fail;refine(Is false false _).mono ?_;rintro e w2 ⟨rfl,P2,Q2,hs2,hb2⟩;rw[HS1.out] at hs2 P2 Q2;simp only[HS1.out];have P1:=Hd (P1.out.below hb2);have Q1:=Hd (Q1.out.below hb2);have P2:=Hd P2;have Q2:=Hd Q2;have HB2:=Hd (aA hb1.out hb2);have HS2:=Hd hs2;clear hb1 hb2 hs2 HS1;have HR:=mD.new ((w2.alloc (.cells #[(.func (.func 233) #[] #[.pointer (some ⟨w.heap.size,0,none⟩),.pointer (some ⟨w.heap.size+1,0,none⟩)])] 204)).alloc (.cells #[Ae] 206));have B1:=(aP.new0 w2 #[(.func (.func 233) #[] #[.pointer (some ⟨w.heap.size,0,none⟩),.pointer (some ⟨w.heap.size+1,0,none⟩)])] 204).below (aB _ (.cells #[Ae] 206));have B3:=aP.new0 (w2.alloc (.cells #[(.func (.func 233) #[] #[.pointer (some ⟨w.heap.size,0,none⟩),.pointer (some ⟨w.heap.size+1,0,none⟩)])] 204)) #[Ae] 206;have HD:=((Br w2.heap.size w2).alloc (Nl _) (.cells #[(.func (.func 233) #[] #[.pointer (some ⟨w.heap.size,0,none⟩),.pointer (some ⟨w.heap.size+1,0,none⟩)])] 204)).alloc (by simp) (.cells #[Ae] 206);simp only[World.size_alloc] at HR B1 B3;have HR:=Hd HR;have B1:=Hd (B1.below (aB _ (.map #[] 0)));have B3:=Hd (B3.below (aB _ (.map #[] 0)));have HD:=Hd (HD.alloc (by simp;omega) (.map #[] 0));have c1:=B1.out.cell 0;go_wp2_with (first|(refine lB rfl _ rfl _ _ _ 155 204 rfl underlying155 (w2.heap.size+1+1) [] rfl HR.out (by simp) 4 rfl ⟨by decide,by decide⟩ (by simp) ?_;intro x1 hR1 hg1 hs1;have HR:=Hd hR1;have B1:=Hd (B1.out.kept hg1 (by omega));have B3:=Hd (B3.out.kept hg1 (by omega));have HD:=Hd (HD.out.grown hg1 HD.out.size (fun k e=>by cases e;omega));clear hR1 hg1 hs1 ; clear c1)|(refine lB rfl _ rfl _ _ _ 155 204 rfl underlying155 (w2.heap.size+1+1) [(4,(.func (.func 233) #[] #[.pointer (some ⟨w.heap.size,0,none⟩),.pointer (some ⟨w.heap.size+1,0,none⟩)]))] rfl HR.out (by simp) 5 rfl ⟨by decide,by decide⟩ (by simp) ?_;intro x2 hR1 hg1 hs1;have HR:=Hd hR1;have B1:=Hd (B1.out.kept hg1 (by omega));have B3:=Hd (B3.out.kept hg1 (by omega));have HD:=Hd (HD.out.grown hg1 HD.out.size (fun k e=>by cases e;omega));clear hR1 hg1 hs1)|(refine lB rfl _ rfl _ _ _ 155 204 rfl underlying155 (w2.heap.size+1+1) [(4,(.func (.func 233) #[] #[.pointer (some ⟨w.heap.size,0,none⟩),.pointer (some ⟨w.heap.size+1,0,none⟩)])),(5,(.func (.func 233) #[] #[.pointer (some ⟨w.heap.size+2,0,none⟩),.pointer (some ⟨w.heap.size+2+1,0,none⟩)]))] rfl HR.out (by simp) 6 rfl ⟨by decide,by decide⟩ (by simp) ?_;intro x3 hR1 hg1 hs1;have HR:=Hd hR1;have B1:=Hd (B1.out.kept hg1 (by omega));have B3:=Hd (B3.out.kept hg1 (by omega));have HD:=Hd (HD.out.grown hg1 HD.out.size (fun k e=>by cases e;omega));clear hR1 hg1 hs1));have P1:=Hd (P1.out.below HD.out);have Q1:=Hd (Q1.out.below HD.out);have P2:=Hd (P2.out.below HD.out);have Q2:=Hd (Q2.out.below HD.out);have hle:=HS2.out;have hsz:=HD.out.size;obtain⟨G,hG⟩:∃G:bD,G=(fun b=>if b=w2.heap.size then some (.val (.func (.func 233) #[] #[.pointer (some ⟨w.heap.size,0,none⟩),.pointer (some ⟨w.heap.size+1,0,none⟩)]) 204) else if b=w2.heap.size+1 then some (.val Ae 206) else if b=w2.heap.size+1+1 then some (.done [(4,true,false),(5,false,false),(6,false,false)]) else if b=w.heap.size then some (.val (.bool true) 4) else if b=w.heap.size+1 then some (.val (.bool false) 4) else if b=w.heap.size+2 then some (.val (.bool false) 4) else if b=w.heap.size+2+1 then some (.val (.bool false) 4) else none):=⟨_,rfl⟩
 have e1:G (w2.heap.size)=some (.val (.func (.func 233) #[] #[.pointer (some ⟨w.heap.size,0,none⟩),.pointer (some ⟨w.heap.size+1,0,none⟩)]) 204):=by rw[hG];dsimp only;rw[if_pos rfl]
 have e2:G (w2.heap.size+1)=some (.val Ae 206):=by rw[hG];dsimp only;rw[if_neg (by omega),if_pos rfl]
 have e3:G (w2.heap.size+1+1)=some (.done [(4,true,false),(5,false,false),(6,false,false)]):=by rw[hG];dsimp only;rw[if_neg (by omega),if_neg (by omega),if_pos rfl]
 have e4:G (w.heap.size)=some (.val (.bool true) 4):=by rw[hG];dsimp only;rw[if_neg (by omega),if_neg (by omega),if_neg (by omega),if_pos rfl]
 have e5:G (w.heap.size+1)=some (.val (.bool false) 4):=by rw[hG];dsimp only;rw[if_neg (by omega),if_neg (by omega),if_neg (by omega),if_neg (by omega),if_pos rfl]
 have e6:G (w.heap.size+2)=some (.val (.bool false) 4):=by rw[hG];dsimp only;rw[if_neg (by omega),if_neg (by omega),if_neg (by omega),if_neg (by omega),if_neg (by omega),if_pos rfl]
 have e7:G (w.heap.size+2+1)=some (.val (.bool false) 4):=by rw[hG];dsimp only;rw[if_neg (by omega),if_neg (by omega),if_neg (by omega),if_neg (by omega),if_neg (by omega),if_neg (by omega),if_pos rfl]
 have LP:lV G (.func (.func 233) #[] #[.pointer (some ⟨w.heap.size,0,none⟩),.pointer (some ⟨w.heap.size+1,0,none⟩)]) (true,false):=⟨_,_,rfl,e4,e5⟩
 have LL:lV G (.func (.func 233) #[] #[.pointer (some ⟨w.heap.size+2,0,none⟩),.pointer (some ⟨w.heap.size+2+1,0,none⟩)]) (false,false):=⟨_,_,rfl,e6,e7⟩
 refine Eb (w0:=w) (b1:=w2.heap.size) (b3:=w2.heap.size+1) (bt:=w2.heap.size+1+1) (VP:=(.func (.func 233) #[] #[.pointer (some ⟨w.heap.size,0,none⟩),.pointer (some ⟨w.heap.size+1,0,none⟩)])) (VL:=(.func (.func 233) #[] #[.pointer (some ⟨w.heap.size+2,0,none⟩),.pointer (some ⟨w.heap.size+2+1,0,none⟩)])) ⟨G,?_⟩ ?_
 ·have HN:=aD (Br x3.heap.size x3) 1;have hno:∀i,¬ on (Array.replicate 124 false) i:=fun i=>by
   unfold on;rw[Array.getD_eq_getD_getElem?,Array.getElem?_replicate];split <;> simp
  refine⟨?_,by simp,by simp,rfl,?_,?_,⟨rfl,rfl,rfl,rfl,rfl,rfl,e1,e2,e3,LP,LL⟩,fun i s c _ ho=>absurd ho (hno i),fun i s c _ ho=>absurd ho (hno i),fun i s _ ho=>absurd ho (hno i)⟩
  ·intro b d e;rw[hG] at e;dsimp only at e;split at e
   ·rename_i hb;injection e with e;subst hb;subst e;exact B1.out.below HN
   ·split at e
    ·rename_i hb;injection e with e;subst hb;subst e;exact B3.out.below HN
    ·split at e
     ·rename_i hb;injection e with e;subst hb;subst e
      refine⟨_,HR.out.below HN,fun p hp=>?_,fun q hq=>?_⟩
      ·simp only[List.cons_append,List.nil_append,List.mem_cons,List.not_mem_nil,or_false] at hp;rcases hp with rfl|rfl|rfl
       ·exact⟨(4,true,false),by simp,rfl,LP⟩
       ·exact⟨(5,false,false),by simp,rfl,LL⟩
       ·exact⟨(6,false,false),by simp,rfl,LL⟩
      ·have hq:q∈[((4:Int),true,false),(5,false,false),(6,false,false)]:=hq;rcases List.mem_cons.1 hq with rfl|hq
       ·exact⟨_,.head _,rfl⟩
       ·rcases List.mem_cons.1 hq with rfl|hq
        ·exact⟨_,.tail _ (.head _),rfl⟩
        ·obtain rfl:=List.mem_singleton.1 hq;exact⟨_,.tail _ (.tail _ (.head _)),rfl⟩
     ·split at e
      ·rename_i hb;injection e with e;subst hb;subst e;exact P1.out.below HN
      ·split at e
       ·rename_i hb;injection e with e;subst hb;subst e;exact Q1.out.below HN
       ·split at e
        ·rename_i hb;injection e with e;subst hb;subst e;exact P2.out.below HN
        ·split at e
         ·rename_i hb;injection e with e;subst hb;subst e;exact Q2.out.below HN
         ·cases e
  ·exact aD (aA HB2.out HD.out) 1
  ·intro b d e;rw[hG] at e;dsimp only at e
   repeat (split at e;omega)
   cases e
 ·intro a w' l H hall;obtain⟨bm,h0,hm,hb,hdf⟩:=KI.end H hall;obtain⟨ts,ds⟩:=a;dsimp only at h0 hdf;subst hdf;go_wp2;exact bodyPost_ret (v:=.map (some bm)) (by have e:=results_tmp (fn:=f125) rfl ts prog w';rw[Array.getD_eq_getD_getElem?,h0] at e;exact e) rfl ⟨bm,rfl,hm,hb⟩
end Go.Proofs.YtejkibnaidiklaaGreatDoor
