/- WashT WashB WashD WashL WashU WashV -/
import Derived.Test.YtiloklnjjfaagaaGreatDoorUWashP
set_option maxHeartbeats 16000000
set_option maxRecDepth 100000
namespace Go.Proofs.YtiloklnjjfaagaaGreatDoor
section
open Go Go.RowKit Num
def dAh(id:List UInt8)(st:bZ9):Int:=(if st.dst=id/\st.src ≠ [] then val st.made else 0)-(if st.src=id then val st.q else 0)
def dAm(id:List UInt8)(st:bZ9):Int:=(if st.dst=id then val st.c else 0)-(if st.src=id then val st.c else 0)
def bZz(id:List UInt8)(l:List bZ9):List UInt8:=l.foldl (fun r st=>if st.dst=id/\st.src ≠ [] then st.src else r) id
theorem bZg{α:Type}{f:α->Int}:∀ {l:List α},(∀x,x∈l->f x=0)->bXk f l=0
 | [],_=>rfl
 |x::l,h=>by rw[bXl,h x List.mem_cons_self,bZg fun y hy=>h y (List.mem_cons_of_mem _ hy)];rfl
theorem bY8{id:List UInt8}:∀ {l:List bZ9}{r:List UInt8},(∀st,st∈l->¬ (st.dst=id/\st.src ≠ []))->l.foldl (fun r st=>if st.dst=id/\st.src ≠ [] then st.src else r) r=r
 | [],_,_=>rfl
 |x::l,r,h=>by
  rw[List.foldl_cons,if_neg (h x List.mem_cons_self)];exact bY8 fun y hy=>h y (List.mem_cons_of_mem _ hy)
def bZv(l0:List Bd)(steps:List bZ9)(y:Bd):Prop :=
 ∃z,z∈l0/\z.id=bZz y.id steps/\val y.q=bXk (dAh y.id) steps+(if bZz y.id steps=y.id then val z.q else 0)/\val y.c=bXk (dAm y.id) steps+(if bZz y.id steps=y.id then val z.c else 0)/\y.opn=z.opn/\y.ins=z.ins/\y.acq<=z.acq/\(y.acq<z.acq->y.u=y.q)
theorem bZv.keep{l0:List Bd}{steps new:List bZ9}{y:Bd}(h:bZv l0 steps y)(hn:∀st,st∈new->st.dst≠y.id/\st.src≠y.id):bZv l0 (steps++new) y:=by
 obtain⟨z,hz,e1,e2,e3,e4⟩:=h;have hr:bZz y.id (steps++new)=bZz y.id steps:=by
  unfold bZz;rw[List.foldl_append];exact bY8 fun st hs g=>(hn st hs).1 g.1
 have hq:bXk (dAh y.id) new=0:=bZg fun st hs=>by unfold dAh;rw[if_neg fun g=>(hn st hs).1 g.1,if_neg (hn st hs).2];rfl
 have hc:bXk (dAm y.id) new=0:=bZg fun st hs=>by unfold dAm;rw[if_neg (hn st hs).1,if_neg (hn st hs).2];rfl
 exact⟨z,hz,by rw[hr];exact e1,by rw[hr,bXf,hq];omega,by rw[hr,bXf,hc];omega,e4⟩
structure dBg(l0:List Bd)(s:bWs):Prop where
 entry:∀y,y∈s.lots->bZv l0 s.steps y
 old:∀y,y∈s.lots->0<y.roomV->∀st,st∈s.steps->st.dst=y.id->st.src=[]
 names:∀st,st∈s.steps->st.dst∈s.lots.map (·.id)/\(st.src=[]∨st.src∈s.lots.map (·.id))
theorem dBg.start{l0:List Bd}{gs:List aLe}:dBg l0 ⟨l0,gs,[],0⟩ :=
 ⟨fun y hy=>⟨y,hy,rfl,by show _=bXk _ []+(if y.id=y.id then _ else _);rw[if_pos rfl];simp[bXk],by show _=bXk _ []+(if y.id=y.id then _ else _);rw[if_pos rfl];simp[bXk],rfl,rfl,Int.le_refl _,fun h=>absurd h (by omega)⟩,fun _ _ _ _ hs=>by(cases hs),fun _ hs=>by(cases hs)⟩
theorem dBi:∀ {l:List Bd},(l.map (·.id)).Nodup->∀ {a b:Bd},a∈l->b∈l->a.id=b.id->a=b
 | [],_,a,_,ha,_,_=>by cases ha
 |x::l,h,a,b,ha,hb,e=>by
  rw[List.map_cons,List.nodup_cons] at h;rcases List.mem_cons.1 ha with e1|ha2
  ·rcases List.mem_cons.1 hb with e2|hb2
   ·rw[e1,e2]
   ·exact absurd (List.mem_map.2 ⟨b,hb2,by rw[<-e,e1]⟩) h.1
  ·rcases List.mem_cons.1 hb with e2|hb2
   ·exact absurd (List.mem_map.2 ⟨a,ha2,by rw[e,e2]⟩) h.1
   ·exact dBi h.2 ha2 hb2 e
theorem dBb{y:Bd}(h:y.err=0):y.id ≠ []:=fun e=>by
 have:=(bYi.1 h).1.1;rw[e] at this
 revert this
 decide
theorem dBv{z:Bd}{x:aLe}{a:Int}(hz:z.err=0)(hx:x.acq<=x.cls):(z.fill x a).acq<=z.acq:=by
 have:=bZy.1 (bYi.1 hz).2.1.1;show max (-25567) (z.acq-(x.cls-x.acq))<=z.acq;omega
theorem bYw{cause:List UInt8}{z:Bd}{a:Int}{st:bZ9}(h:st∈bX3 cause z a):st=⟨cause,[],z.id,[],[],aJ a⟩/\a≠0:=by
 unfold bX3 at h;split at h
 ·cases h
 ·rename_i e;exact⟨List.mem_singleton.1 h,e⟩
theorem bZ6(cause:List UInt8)(z:Bd)(a:Int)(hid:z.id ≠ []):bXk (dAm z.id) (bX3 cause z a)=a/\bXk (dAh z.id) (bX3 cause z a)=0:=by
 unfold bX3;split
 ·rename_i e;rw[e];exact⟨rfl,rfl⟩
 ·refine⟨?_,?_⟩
  ·rw[bXl];unfold dAm;dsimp only;rw[if_pos rfl,if_neg (Ne.symm hid),bE];simp[bXk]
  ·rw[bXl];unfold dAh;dsimp only;rw[if_neg (fun g=>g.2 rfl),if_neg (Ne.symm hid)];simp[bXk]
theorem bZv.fill{l0:List Bd}{steps:List bZ9}{y:Bd}{x:aLe}{a:Int}{cause:List UInt8}(h:bZv l0 steps y)(hy:y.err=0)(hx:x.acq<=x.cls):bZv l0 (steps++bX3 cause (y.fill x a) a) (y.fill x a):=by
 obtain⟨z,hz,e1,e2,e3,e4,e5,e6,e7⟩:=h;have hid:(y.fill x a).id=y.id:=rfl;have hr:bZz y.id (steps++bX3 cause (y.fill x a) a)=bZz y.id steps:=by
  unfold bZz;rw[List.foldl_append];exact bY8 fun st hs g=>by rw[(bYw hs).1] at g;exact g.2 rfl
 obtain⟨s1,s2⟩:=bZ6 cause (y.fill x a) a (by rw[hid];exact dBb hy);rw[hid] at s1 s2;refine⟨z,hz,by rw[hid,hr];exact e1,?_,?_,e4,e5,Int.le_trans (dBv hy hx) e6,fun _=>rfl⟩
 ·rw[hid,hr,bXf,s2];show val y.q=_;omega
 ·rw[hid,hr,bXf,s1];show val (aJ (val y.c+a))=_;rw[bE];omega
end
section
open Go Go.RowKit Num
theorem dA4{α:Type}{l:List α}{k:Nat}{y z:α}(h:l[k]?=some y):z∈l.set k z:=by
 have hk:=(Li.1 h).1;exact List.mem_of_getElem? (i:=k) (by rw[List.getElem?_set,if_pos rfl,if_pos hk])
theorem dBa{ls:List Bd}{z:Bd}{i:List UInt8}:i∈(bZb ls z).map (·.id)↔i=z.id∨i∈ls.map (·.id):=by
 rw[List.mem_map,List.mem_map];constructor
 ·rintro⟨y,hy,rfl⟩;rcases bZj.1 hy with rfl|hy
  ·exact .inl rfl
  ·exact .inr ⟨y,hy,rfl⟩
 ·rintro(rfl|⟨y,hy,rfl⟩)
  ·exact⟨z,bZj.2 (.inl rfl),rfl⟩
  ·exact⟨y,bZj.2 (.inr hy),rfl⟩
theorem dAt{l0:List Bd}{s s':bWs}{i k:Nat}{x:aLe}{y:Bd}{cause:List UInt8}(H:bZp s.lots)(hc:dC cause=true)(hy:s.lots[k]?=some y)(gx:x.err=0)(ho:0<x.openV)(hr:0<y.roomV)(h:bXx s i k x y cause=some s')(B:dBg l0 s):dBg l0 s':=by
 have H':=bY7 H hc hy gx ho hr h;have hym:=List.mem_of_getElem? hy;have gy:=H.ok y hym;have hac:x.acq<=x.cls:=(bY2.1 gx).2.2.1;have hyi:y.id∈s.lots.map (·.id):=List.mem_map.2 ⟨y,hym,rfl⟩;have hyn:=dBb gy;unfold bXx at h;split at h
 ·obtain rfl:=Option.some.inj h;have hf:∀ {u},u∈s.lots.set k (y.fill x (bXe x y))->u.id=y.id->u=y.fill x (bXe x y):=fun hu e=>dBi H'.ids hu (dA4 hy) e
  refine⟨fun u hu=>?_,fun u hu hru st hs hd=>?_,fun st hs=>?_⟩
  ·by_cases e:u.id=y.id
   ·rw[hf hu e];exact(B.entry y hym).fill gy hac
   ·rcases bZt hu with rfl|hul
    ·exact absurd rfl e
    ·refine(B.entry u hul).keep fun st hs=>?_
     obtain⟨rfl,_⟩:=bYw hs;exact⟨fun g=>e g.symm,fun g=>dBb (H'.ok u hu) g.symm⟩
  ·rcases bZt hu with rfl|hul
   ·rw[bZr] at hru;omega
   ·rcases List.mem_append.1 hs with hs|hs
    ·exact B.old u hul hru st hs hd
    ·rw[(bYw hs).1]
  ·show st.dst∈(s.lots.set k _).map _/\_;rw[dAk hy (z:=y.fill x (bXe x y)) rfl];rcases List.mem_append.1 hs with hs|hs
   ·exact B.names st hs
   ·obtain⟨rfl,_⟩:=bYw hs;exact⟨hyi,.inl rfl⟩
 ·rename_i hne;split at h
  ·cases h
  rename_i h9;split at h
  ·cases h
  obtain rfl:=Option.some.inj h;obtain⟨u0,u1⟩:=dAp gy hr;have hfr:=dAi (ls:=s.lots) hc (by omega);have hfi:((bYn s.lots cause y (bWp x y)).fill x (bXe x y)).id=bZf cause (bZw s.lots cause):=rfl;have hri:(y.rest (bWp x y)).id=y.id:=rfl;have hpc:val (bYn s.lots cause y (bWp x y)).c=bZe (val y.c) (bWp x y) (val y.q):=by show val (aJ _)=_;rw[bE]
  have hpa:(bYn s.lots cause y (bWp x y)).acq=y.acq:=rfl;have hnn:bZf cause (bZw s.lots cause) ≠ []:=by unfold bZf;simp
  have hny:y.id≠bZf cause (bZw s.lots cause):=fun e=>hfr (e ▸ hyi)
  have hfa:((bYn s.lots cause y (bWp x y)).fill x (bXe x y)).acq<=y.acq:=by
   have:=bZy.1 (bYi.1 gy).2.1.1;show max (-25567) (y.acq-(x.cls-x.acq))<=y.acq;omega
  generalize hid:bZf cause (bZw s.lots cause)=nid at *;generalize hp:bYn s.lots cause y (bWp x y)=p at *;generalize hfd:p.fill x (bXe x y)=f at *;obtain⟨z,hz,z1,z2,z3,z4,z5,z6,z7⟩:=B.entry y hym;have hroot:bZz y.id s.steps=y.id:=bY8 fun st hs g=>g.2 (B.old y hym hr st hs g.1)
  rw[hroot] at z1 z2 z3;rw[if_pos rfl] at z2 z3;have zacq:¬ y.acq<z.acq:=fun g=>by
   have e:=z7 g;unfold Bd.roomV at hr;rw[e] at hr;omega
  have hcost:∀st,st∈bX3 cause f (bXe x y)->st.dst=nid/\st.src=[]:=fun st hs=>by
   obtain⟨rfl,_⟩:=bYw hs;exact⟨hfi,rfl⟩
  have hold:∀st,st∈s.steps->st.dst≠nid/\st.src≠nid:=fun st hs=>by
   obtain⟨g1,g2⟩:=B.names st hs;exact⟨fun e=>hfr (e ▸ g1),fun e=>g2.elim (fun g=>hnn (e ▸ g)) (fun g=>hfr (e ▸ g))⟩
  have sc:=bZ6 cause f (bXe x y) (by rw[hfi];exact hnn);rw[hfi] at sc;have fentry:bZv l0 (s.steps ++ [⟨cause,y.id,nid,aJ (bWp x y),aJ (bWp x y),p.c⟩]++bX3 cause f (bXe x y)) f:=by
   have hrt:bZz nid (s.steps ++ [⟨cause,y.id,nid,aJ (bWp x y),aJ (bWp x y),p.c⟩]++bX3 cause f (bXe x y))=y.id:=by
    unfold bZz;rw[List.foldl_append,List.foldl_append,bY8 (l:=s.steps) fun st hs g=>(hold st hs).1 g.1,List.foldl_cons,List.foldl_nil];dsimp only;rw[if_pos ⟨rfl,hyn⟩];exact bY8 fun st hs g=>g.2 (hcost st hs).2
   refine⟨z,hz,?_,?_,?_,?_,?_,by omega,fun _=>?_⟩
   ·rw[hfi,hrt];exact z1
   ·rw[hfi,hrt,if_neg hny,bXf,bXf,bZg (l:=s.steps) fun st hs=>by unfold dAh;rw[if_neg fun g=>(hold st hs).1 g.1,if_neg (hold st hs).2];rfl,sc.2,bXl];unfold dAh;dsimp only;rw[if_pos ⟨rfl,hyn⟩,if_neg hny,bE];rw[<-hfd,<-hp];show val (aJ (bWp x y))=_;rw[bE];simp[bXk]
   ·rw[hfi,hrt,if_neg hny,bXf,bXf,bZg (l:=s.steps) fun st hs=>by unfold dAm;rw[if_neg (hold st hs).1,if_neg (hold st hs).2];rfl,sc.1,bXl];unfold dAm;dsimp only;rw[if_pos rfl,if_neg hny];rw[<-hfd];show val (aJ (val p.c+bXe x y))=_;rw[bE];simp[bXk]
   ·rw[<-hfd,<-hp];exact z4
   ·rw[<-hfd,<-hp];exact z5
   ·rw[<-hfd];rfl
  have rentry:bZv l0 (s.steps ++ [⟨cause,y.id,nid,aJ (bWp x y),aJ (bWp x y),p.c⟩]++bX3 cause f (bXe x y)) (y.rest (bWp x y)):=by
   have hrt:bZz y.id (s.steps ++ [⟨cause,y.id,nid,aJ (bWp x y),aJ (bWp x y),p.c⟩]++bX3 cause f (bXe x y))=y.id:=by
    unfold bZz;rw[List.foldl_append,List.foldl_append];rw[show s.steps.foldl (fun r st=>if st.dst=y.id/\st.src ≠ [] then st.src else r) y.id=y.id from hroot,List.foldl_cons,List.foldl_nil];dsimp only;rw[if_neg fun g=>hny g.1.symm];exact bY8 fun st hs g=>g.2 (hcost st hs).2
   have c0:bXk (dAh y.id) (bX3 cause f (bXe x y))=0:=bZg fun st hs=>by
    unfold dAh;rw[if_neg fun g=>g.2 (hcost st hs).2,if_neg fun g=>hyn (by rw[<-g];exact(hcost st hs).2)];rfl
   have c1:bXk (dAm y.id) (bX3 cause f (bXe x y))=0:=bZg fun st hs=>by
    unfold dAm;rw[if_neg fun g=>hny (by rw[<-g];exact(hcost st hs).1),if_neg fun g=>hyn (by rw[<-g];exact(hcost st hs).2)];rfl
   refine⟨z,hz,by rw[hri,hrt];exact z1,?_,?_,z4,z5,z6,fun g=>absurd g zacq⟩
   ·rw[hri,hrt,if_pos rfl,bXf,bXf,c0,bXl];unfold dAh at z2 ⊢;dsimp only;rw[if_neg fun g=>hny g.1.symm,if_pos rfl,bE];show val (aJ (val y.q-bWp x y))=_;rw[bE,z2];simp[bXk];omega
   ·rw[hri,hrt,if_pos rfl,bXf,bXf,c1,bXl];unfold dAm at z3 ⊢;dsimp only;rw[if_neg (Ne.symm hny),if_pos rfl,hpc];show val (aJ (val y.c-bZe (val y.c) (bWp x y) (val y.q)))=_;rw[bE];simp[bXk] at z3 ⊢;omega
  have hmem:∀ {u},u∈bZb (s.lots.set k (y.rest (bWp x y))) f->u=f∨u=y.rest (bWp x y)∨(u∈s.lots/\u.id≠y.id):=fun {u} hu=>by
   rcases bZj.1 hu with e|hul
   ·exact .inl e
   ·rcases bZt hul with e|hl
    ·exact .inr (.inl e)
    ·by_cases e:u.id=y.id
     ·exact .inr (.inl (dBi H'.ids hu (bZj.2 (.inr (dA4 hy))) e))
     ·exact .inr (.inr ⟨hl,e⟩)
  refine⟨fun u hu=>?_,fun u hu hru st hs hd=>?_,fun st hs=>?_⟩
  ·rcases hmem hu with rfl|rfl|⟨hul,e⟩
   ·exact fentry
   ·exact rentry
   ·have hun:u.id≠nid:=fun g=>hfr (g ▸ List.mem_map.2 ⟨u,hul,rfl⟩)
    have hu0:=dBb (H.ok u hul);refine((B.entry u hul).keep fun st hs=>?_).keep fun st hs=>?_
    ·obtain rfl:=List.mem_singleton.1 hs;exact⟨fun g=>hun g.symm,fun g=>e g.symm⟩
    ·exact⟨fun g=>hun (by rw[<-g];exact(hcost st hs).1),fun g=>hu0 (by rw[<-g];exact(hcost st hs).2)⟩
  ·rcases List.mem_append.1 hs with hs|hs
   ·rcases hmem hu with rfl|rfl|⟨hul,e⟩
    ·rw[<-hfd,bZr] at hru;omega
    ·rcases List.mem_append.1 hs with hs|hs
     ·exact B.old y hym hr st hs hd
     ·obtain rfl:=List.mem_singleton.1 hs;exact absurd hd.symm hny
    ·rcases List.mem_append.1 hs with hs|hs
     ·exact B.old u hul hru st hs hd
     ·obtain rfl:=List.mem_singleton.1 hs;exact absurd (List.mem_map.2 ⟨u,hul,hd.symm⟩) hfr
   ·exact(hcost st hs).2
  ·show st.dst∈(bZb _ f).map _/\(_∨st.src∈(bZb _ f).map _)
   rw[dBa,dBa,dAk hy (z:=y.rest (bWp x y)) rfl,hfi];rcases List.mem_append.1 hs with hs|hs
   ·rcases List.mem_append.1 hs with hs|hs
    ·obtain⟨g1,g2⟩:=B.names st hs;exact⟨.inr g1,g2.imp id .inr⟩
    ·obtain rfl:=List.mem_singleton.1 hs;exact⟨.inl rfl,.inr (.inr hyi)⟩
   ·exact⟨.inl (hcost st hs).1,.inl (hcost st hs).2⟩
end
section
open Go Go.RowKit Num
theorem bZl.book{ins:List UInt8}{d wash:Int}{cause:List UInt8}{l0:List Bd}(hc:dC cause=true){s t:bWs}(r:bZl ins d wash cause s t):dAw s->dBg l0 s->dBg l0 t:=by
 induction r with
 |refl s=>exact fun _ B=>B
 |step i k x y hx hd hy hr h _ ih =>
  intro H B;have gx:=H.gains x (List.mem_of_getElem? hx);have d3:=(bY6 hd).2.2.1;have p2:=(bYt.1 hr).2.1;exact ih ⟨bY7 H.lots hc hy gx d3 p2 h,(bY9 H.gains gx d3 p2 h).2⟩ (dAt H.lots hc hy gx d3 p2 h B)
def dAn(st:bZ9):Int:=if st.src=[] then val st.c else 0
structure dAo(cause:List UInt8)(s:bWs):Prop where
 all:∀st,st∈s.steps->st.cause=cause/\st.dst ≠ []/\st.q=st.made
 add:bXk dAn s.steps=s.sum
theorem dAo.start(cause:List UInt8)(ls:List Bd)(gs:List aLe):dAo cause ⟨ls,gs,[],0⟩:=⟨fun _ h=>by(cases h),rfl⟩
theorem bZ1(cause:List UInt8)(z:Bd)(a:Int):bXk dAn (bX3 cause z a)=a:=by
 unfold bX3;split
 ·rename_i e;rw[e];rfl
 ·rw[bXl];unfold dAn;dsimp only;rw[if_pos rfl,bE];simp[bXk]
theorem dAd{s s':bWs}{i k:Nat}{x:aLe}{y:Bd}{cause:List UInt8}(gy:y.err=0)(h:bXx s i k x y cause=some s')(B:dAo cause s):dAo cause s':=by
 have hyn:=dBb gy;unfold bXx at h;split at h
 ·obtain rfl:=Option.some.inj h;refine⟨fun st hs=>?_,?_⟩
  ·rcases List.mem_append.1 hs with hs|hs
   ·exact B.all st hs
   ·obtain⟨rfl,_⟩:=bYw hs;exact⟨rfl,hyn,rfl⟩
  ·show bXk dAn (_++_)=s.sum+bXe x y;rw[bXf,B.add,bZ1]
 ·split at h
  ·cases h
  split at h
  ·cases h
  obtain rfl:=Option.some.inj h;have hnn:bZf cause (bZw s.lots cause) ≠ []:=by unfold bZf;simp
  refine⟨fun st hs=>?_,?_⟩
  ·rcases List.mem_append.1 hs with hs|hs
   ·rcases List.mem_append.1 hs with hs|hs
    ·exact B.all st hs
    ·obtain rfl:=List.mem_singleton.1 hs;exact⟨rfl,hnn,rfl⟩
   ·obtain⟨rfl,_⟩:=bYw hs;exact⟨rfl,hnn,rfl⟩
  ·show bXk dAn (_++_++_)=s.sum+bXe x y;rw[bXf,bXf,B.add,bZ1,bXl];have:dAn ⟨cause,y.id,bZf cause (bZw s.lots cause),aJ (bWp x y),aJ (bWp x y),(bYn s.lots cause y (bWp x y)).c⟩=0:=by unfold dAn;rw[if_neg hyn]
   rw[this];simp[bXk]
theorem bZl.steps{ins:List UInt8}{d wash:Int}{cause:List UInt8}(hc:dC cause=true){s t:bWs}(r:bZl ins d wash cause s t):dAw s->dAo cause s->dAo cause t:=by
 induction r with
 |refl s=>exact fun _ B=>B
 |step i k x y hx hd hy hr h _ ih =>
  intro H B;have gx:=H.gains x (List.mem_of_getElem? hx);have gy:=H.lots.ok y (List.mem_of_getElem? hy);have d3:=(bY6 hd).2.2.1;have p2:=(bYt.1 hr).2.1;exact ih ⟨bY7 H.lots hc hy gx d3 p2 h,(bY9 H.gains gx d3 p2 h).2⟩ (dAd gy h B)
end
section
open Go Go.RowKit Num
theorem bZ2{α:Type}{f:α->Int}:∀ {l:List α},(∀x,x∈l->0<=f x)->0<=bXk f l
 | [],_=>Int.le_refl _
 |x::l,h=>by
  rw[bXl];have:=h x List.mem_cons_self;have:=bZ2 (f:=f) (l:=l) fun y hy=>h y (List.mem_cons_of_mem _ hy)
  omega
theorem dBj{α:Type}{f:α->Int}:∀ {l:List α}{y:α},(∀x,x∈l->0<=f x)->y∈l->f y<=bXk f l
 | [],_,_,h=>by cases h
 |x::l,y,h,hy=>by
  rw[bXl];have h0:=h x List.mem_cons_self;have h1:=bZ2 (f:=f) (l:=l) fun y hy=>h y (List.mem_cons_of_mem _ hy)
  rcases List.mem_cons.1 hy with rfl|hy
  ·omega
  ·have:=dBj (f:=f) (fun y hy=>h y (List.mem_cons_of_mem _ hy)) hy;omega
theorem dBx{α:Type}{f g:α->Int}:∀ {l:List α},(∀x,x∈l->f x<=g x)->bXk f l<=bXk g l
 | [],_=>Int.le_refl _
 |x::l,h=>by
  rw[bXl,bXl];have:=h x List.mem_cons_self;have:=dBx (f:=f) (g:=g) (l:=l) fun y hy=>h y (List.mem_cons_of_mem _ hy)
  omega
def dCa(s:bWs):Int:=bXk (fun y:Bd=>val y.c) s.lots
def dB9(s:bWs):Int:=bXk (fun x:aLe=>val x.df) s.gains
def bZx(s:bWs):Int:=bXk aLe.loss s.gains
theorem dAc{s s':bWs}{i k:Nat}{x:aLe}{y:Bd}{cause:List UInt8}(hx:s.gains[i]?=some x)(hy:s.lots[k]?=some y)(h:bXx s i k x y cause=some s'):dCa s'-dCa s=s'.sum-s.sum/\dB9 s'-dB9 s=s'.sum-s.sum/\bZx s'=bZx s:=by
 have hgd:∀l:Int,bXk (fun x:aLe=>val x.df) (s.gains.set i (x.repl (bWp x y) (bXe x y)))-bXk (fun x:aLe=>val x.df) s.gains=l+bXe x y-l:=fun l=>by
  rw[bYr _ hx];show _-val x.df+val (aJ (val x.df+bXe x y))-_=_;rw[bE];omega
 have hl:bXk aLe.loss (s.gains.set i (x.repl (bWp x y) (bXe x y)))=bXk aLe.loss s.gains:=by
  rw[bYr _ hx,show (x.repl (bWp x y) (bXe x y)).loss=x.loss from rfl];omega
 unfold bXx at h;unfold dCa dB9 bZx;split at h
 ·obtain rfl:=Option.some.inj h;refine⟨?_,hgd s.sum,hl⟩;show bXk _ (s.lots.set k _)-_=s.sum+bXe x y-s.sum;rw[bYr _ hy];show _-val y.c+val (aJ (val y.c+bXe x y))-_=_;rw[bE];omega
 ·split at h
  ·cases h
  split at h
  ·cases h
  obtain rfl:=Option.some.inj h;refine⟨?_,hgd s.sum,hl⟩;show bXk _ (bZb (s.lots.set k _) _)-_=s.sum+bXe x y-s.sum;rw[bZ5,bYr _ hy];have e1:val (y.rest (bWp x y)).c=val y.c-bZe (val y.c) (bWp x y) (val y.q):=by show val (aJ _)=_;rw[bE]
  have e2:val ((bYn s.lots cause y (bWp x y)).fill x (bXe x y)).c=bZe (val y.c) (bWp x y) (val y.q)+bXe x y:=by show val (aJ (val (aJ _)+_))=_;rw[bE,bE]
  rw[e1,e2];omega
theorem bZl.total{ins:List UInt8}{d wash:Int}{cause:List UInt8}{s t:bWs}(r:bZl ins d wash cause s t):dCa t-dCa s=t.sum-s.sum/\dB9 t-dB9 s=t.sum-s.sum/\bZx t=bZx s:=by
 induction r with
 |refl s=>exact⟨by omega,by omega,rfl⟩
 |step i k x y hx hd hy hr h _ ih =>
  obtain⟨a,b,c⟩:=dAc hx hy h;obtain⟨a',b',c'⟩:=ih;exact⟨by omega,by omega,c'.trans c⟩
theorem bZl.bound{ins:List UInt8}{d wash:Int}{cause:List UInt8}(hc:dC cause=true){s t:bWs}(r:bZl ins d wash cause s t)(H:dAw s):t.sum-s.sum<=bZx s/\∀y,y∈t.lots->val y.c<=dCa s+bZx s:=by
 have K:=(r.keeps hc H)
 obtain⟨a,b,c⟩:=r.total;have hd:0<=dB9 s:=bZ2 fun x hx=>(bY2.1 (H.gains x hx)).2.2.2.2.2.1
 have hdl:dB9 t<=bZx t:=dBx fun x hx=>(bY2.1 (K.ok.gains x hx)).2.2.2.2.2.2.1
 refine⟨by omega,fun y hy=>?_⟩;have hm:val y.c<=dCa t:=dBj (f:=fun y:Bd=>val y.c) (fun z hz=>(bYi.1 (K.ok.lots.ok z hz)).2.2.2.2.2.1) hy;omega
end
section
open Go Go.RowKit Num
theorem bZn{ins:List UInt8}{d wash:Int}{s:bWs}{i:Nat}{p:Nat×aLe×Bd}(h:bY0 ins d wash s i=some p):i<s.gains.length:=by
 obtain⟨k,x,y⟩:=p;exact(Li.1 (bYm h).1).1
theorem bZm.uniq{ins:List UInt8}{d wash:Int}{cause:List UInt8}{s:bWs}{i:Nat}{r:Option bWs}(h:bZm ins d wash cause s i r):∀r',bZm ins d wash cause s i r'->r=r':=by
 induction h with
 | @done s i h =>
  intro r' h';cases h' with
  |done=>rfl
  |skip h2=>omega
  |limit hn=>have:=bZn hn;omega
  |step hn=>have:=bZn hn;omega
 | @skip s i r h hn _ ih =>
  intro r' h';cases h' with
  |done h2=>omega
  |skip _ _ e=>exact ih _ e
  |limit hn2=>rw[hn] at hn2;cases hn2
  |step hn2=>rw[hn] at hn2;cases hn2
 | @limit s i k x y hn hq =>
  intro r' h';cases h' with
  |done h2=>have:=bZn hn;omega
  |skip _ hn2=>rw[hn] at hn2;cases hn2
  |limit=>rfl
  |step hn2 hq2 =>
   rw[hn] at hn2;injection hn2 with hn2
   injection hn2 with e1 e2
   injection e2 with e2 e3
   subst e1 e2 e3;rw[hq] at hq2;cases hq2
 | @step s s' i k x y r hn hq _ ih =>
  intro r' h';cases h' with
  |done h2=>have:=bZn hn;omega
  |skip _ hn2=>rw[hn] at hn2;cases hn2
  |limit hn2 hq2 =>
   rw[hn] at hn2;injection hn2 with hn2
   injection hn2 with e1 e2
   injection e2 with e2 e3
   subst e1 e2 e3;rw[hq] at hq2;cases hq2
  |step hn2 hq2 e =>
   rw[hn] at hn2;injection hn2 with hn2
   injection hn2 with e1 e2
   injection e2 with e2 e3
   subst e1 e2 e3;rw[hq] at hq2;obtain rfl:=Option.some.inj hq2;exact ih _ e
end
section
open Go Go.RowKit Num
theorem dA5:∀(r pre:List Bd),aLj pre r=0↔(∀x,x∈r->x.err=0)/\(r.map (·.id)).Nodup/\∀x,x∈r->∀y,y∈pre->y.id≠x.id
 | [],pre=>⟨fun _=>⟨fun x hx=>by(cases hx),by simp,fun x hx=>by(cases hx)⟩,fun _=>rfl⟩
 |x::r,pre=>by
  have ih:=dA5 r (pre ++ [x]);have e:aLj pre (x::r)=if x.err≠0 then x.err else if pre.any (fun y=>y.id==x.id)=true then 5 else aLj (pre ++ [x]) r:=rfl
  rw[e]
  by_cases hx:x.err=0
  ·rw[if_neg (by simp[hx])]
   by_cases ha:pre.any (fun y=>y.id==x.id)=true
   ·rw[if_pos ha];refine⟨fun h=>by(cases h),fun⟨_,_,h3⟩=>?_⟩;obtain⟨y,hy,hq⟩:=List.any_eq_true.1 ha;exact absurd (by simpa using hq) (h3 x List.mem_cons_self y hy)
   ·rw[if_neg ha,ih,List.map_cons,List.nodup_cons];constructor
    ·rintro⟨h1,h2,h3⟩;refine⟨fun z hz=>?_,⟨fun hm=>?_,h2⟩,fun z hz y hy=>?_⟩
     ·rcases List.mem_cons.1 hz with rfl|hz
      ·exact hx
      ·exact h1 z hz
     ·obtain⟨z,hz,q⟩:=List.mem_map.1 hm;exact h3 z hz x (by simp) q.symm
     ·rcases List.mem_cons.1 hz with rfl|hz
      ·intro q;exact ha (List.any_eq_true.2 ⟨y,hy,by simpa using q⟩)
      ·exact h3 z hz y (by simp[hy])
    ·rintro⟨h1,⟨h4,h2⟩,h3⟩;refine⟨fun z hz=>h1 z (List.mem_cons_of_mem _ hz),h2,fun z hz y hy=>?_⟩;rcases List.mem_append.1 hy with hy|hy
     ·exact h3 z (List.mem_cons_of_mem _ hz) y hy
     ·rw[List.mem_singleton] at hy;subst hy;exact fun q=>h4 (List.mem_map.2 ⟨z,hz,q.symm⟩)
  ·rw[if_pos hx];exact⟨fun h=>absurd h hx,fun⟨h1,_⟩=>absurd (h1 x List.mem_cons_self) hx⟩
theorem dB2(ls:List Bd):aO6 ls=0↔bZp ls:=by
 unfold aO6
 by_cases h:1000<ls.length
 ·rw[if_pos h];exact⟨fun h=>by(cases h),fun H=>by have:=H.len;omega⟩
 ·rw[if_neg h,dA5];exact⟨fun⟨a,b,_⟩=>⟨a,b,by omega⟩,fun H=>⟨H.ok,H.ids,fun _ _ y hy=>by(cases hy)⟩⟩
end
end Go.Proofs.YtiloklnjjfaagaaGreatDoor
