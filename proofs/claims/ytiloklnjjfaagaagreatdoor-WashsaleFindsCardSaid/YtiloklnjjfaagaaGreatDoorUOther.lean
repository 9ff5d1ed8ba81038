/- Maps2 Kinds1 Kinds1b Kinds2 KindP BetweenK KTab KReg KReg2 KReg3 Kinds4 Kinds5 FactA FactP Picks Picks2 Opts Value Empty FactC Field0 Check0 OrderIn Flow Field Check1 Check2 Blk SameG EqNil SameH Check3 LogP OpenFacts Log0 ViewP ElectP Where Class Cmp FCompare ViewCheck -/
import Derived.Test.YtiloklnjjfaagaaGreatDoorUOrd0
import Derived.Test.YtiloklnjjfaagaaGreatDoorUFrac
import Derived.Test.YtiloklnjjfaagaaGreatDoorUOpen
import Derived.Maps.RangeWalk
import Derived.Sort.Walk0
set_option maxHeartbeats 16000000
set_option maxRecDepth 100000
namespace Go.Proofs.YtiloklnjjfaagaaGreatDoor
open Go.Proofs.Tryz
section
open Go Go.RowKit Go.Maps Go.MapKept Go.WideElems
def Ca:Value->Option (DataW Unit×List MemPlace):=fun _=>some (.lit (.bool true),[])
theorem zR:Keyed prog 3:=int_keyed underlying3
def mD(w:World)(b:Nat)(kvs:List (Int×Value)):Prop:=eL w b kvs/\∃n D,n<=1000/\n<=kvs.length/\w.ownsMap prog 3 Ca b n D
theorem mD.new(w:World):mD (w.alloc (.map #[] 0)) w.heap.size []:=⟨eL.new w,0,_,by decide,Nl _,World.ownsMap_made _ _ _ _⟩
theorem Kn{w w':World}{b n:Nat}{D:DataW Unit}(h:w.ownsMap prog 3 Ca b n D)(hb:Below w.heap.size w w'):w'.ownsMap prog 3 Ca b n D:=by
 have hl:=World.ownsMap.lt h;obtain⟨es,clock,hh,F,hs,hD⟩:=h;exact⟨es,clock,(hb.block b hl).trans hh,F,hs,hD⟩
theorem mD.below{w w':World}{b:Nat}{kvs:List (Int×Value)}(h:mD w b kvs)(hb:Below w.heap.size w w'):mD w' b kvs:=by
 obtain⟨h1,n,D,h2,h3,h4⟩:=h;exact⟨h1.below hb,n,D,h2,h3,Kn h4 hb⟩
theorem mD.kept{w w':World}{b b':Nat}{kvs:List (Int×Value)}(h:mD w b kvs)(hg:w.grownBy w' (some b'))(hne:b≠b'):mD w' b kvs:=by
 obtain⟨h1,n,D,h2,h3,h4⟩:=h;exact⟨h1.kept hg hne,n,D,h2,h3,h4.kept hg (by intro e;injection e with e;exact hne e)⟩
theorem mD.lt{w:World}{b:Nat}{kvs:List (Int×Value)}(h:mD w b kvs):b<w.heap.size:=h.1.lt
theorem Sf{k:Int}(h1:0<=k)(h2:k<=1000):(Lit.int .i64 k).wf=true:=WalkArith.wf_i64 (by omega)
theorem mD.insert{w:World}{b:Nat}{kvs:List (Int×Value)}{t et:TypeId}(hm:prog.underlying t=some (.map 3 et))(h:mD w b kvs)(hl:kvs.length<1000)(k:Int)(hk:0<=k/\k<=1000)(v:Value)(hne:∀p∈kvs,p.1≠k):
  ∃w',(Instr.mapUpdate t (.map (some b)) (.int .i64 k) v).run prog w=.ok () w'/\mD w' b (kvs ++ [(k,v)])/\w.grownBy w' (some b)/\w'.heap.size=w.heap.size:=by
 obtain⟨h1,n,D,h2,h3,h4⟩:=h;obtain⟨w',hrun,r1,r2,r3⟩:=qC hm underlying3 h1 k v hne;obtain⟨w'',hrun',r4,_⟩:=h4.update zR hm (by unfold maxLen;omega) (Maps.keyOf_int_mk underlying3 (Sf hk.1 hk.2)) (val:=v) rfl;rw[hrun] at hrun';injection hrun' with _ hw
 subst hw;exact⟨w',hrun,⟨r1,n+1,_,by omega,by simp;omega,r4⟩,r2,r3⟩
end
section
open Go Go.RowKit Go.Maps Go.MapKept Go.WideElems
def aK(word:List UInt8)(cls:Int)(hs:List Bool)(m:Value)(code:Bool):Array Value:=([Value.string ⟨word.toArray⟩,Value.int .i64 cls]++hs.map Value.bool ++ [m,Value.bool code]).toArray
end
section
open Go Go.RowKit Go.Maps Go.MapKept Go.WideElems
inductive yA{β γ:Type}(R:β->γ->Prop):List β->List γ->Prop where
 |nil:yA R [] []
 |cons {x:β}{y:γ}{xs:List β}{ys:List γ}:R x y->yA R xs ys->yA R (x::xs) (y::ys)
theorem yA.imp{β γ:Type}{R S:β->γ->Prop}(hi:∀x y,R x y->S x y){xs:List β}{ys:List γ}(h:yA R xs ys):yA S xs ys:=by
 induction h with
 |nil=>exact .nil
 |cons hp _ ih=>exact .cons (hi _ _ hp) ih
theorem yA.append{β γ:Type}{R:β->γ->Prop}{xs xs':List β}{ys ys':List γ}(h:yA R xs ys)(h':yA R xs' ys'):yA R (xs++xs') (ys++ys'):=by
 induction h with
 |nil=>exact h'
 |cons hp _ ih=>exact .cons hp ih
theorem yA.right{β γ:Type}{R:β->γ->Prop}{xs:List β}{ys:List γ}(h:yA R xs ys){y:γ}(hy:y∈ys):∃x,x∈xs/\R x y:=by
 induction h with
 |nil=>cases hy
 |cons hp _ ih =>
  rcases List.mem_cons.1 hy with rfl|hm
  ·exact⟨_,by simp,hp⟩
  ·obtain⟨x,hx,hr⟩:=ih hm;exact⟨x,by simp[hx],hr⟩
theorem yA.left{β γ:Type}{R:β->γ->Prop}{xs:List β}{ys:List γ}(h:yA R xs ys){x:β}(hx:x∈xs):∃y,y∈ys/\R x y:=by
 induction h with
 |nil=>cases hx
 |cons hp _ ih =>
  rcases List.mem_cons.1 hx with rfl|hm
  ·exact⟨_,by simp,hp⟩
  ·obtain⟨y,hy,hr⟩:=ih hm;exact⟨y,by simp[hy],hr⟩
structure bH where
 word:List UInt8
 cls:Int
 nums:List (Int×Bool×Bool)
 more:List Int
 code:Bool
def bH.has(k:bH):List Bool:=(List.range 13).map fun (i:Nat)=>k.nums.any (fun p=>p.1==(i:Int)) || k.more.contains (i:Int)
end
section
open Go
inductive Df where
 |fOf
 |fWc
 |fAmt
 |trade
 |lim (p q:Bool)
 |row (l:List Int)
 |kind (k:bH)
 |same (m j:Nat)
 |osame (m:Nat)
 |ins (j:Nat) (n:Int)
 |oins (n:Int)
 |mk (j:Nat)
 |omk
def jH(j:Nat):List (Int×Bool×Bool):=[[(7,true,false)],[(4,true,false),(5,true,false)],[(7,false,false),(8,true,false)],[(7,false,false),(8,true,false),(9,false,true)],[(4,true,false),(7,false,false),(8,true,false)],[(7,true,false)],[(7,false,false)],[(7,false,false)],[(8,true,false)]].getD j []
def dK:List (Nat×Df):=[(15,.omk),(16,.fAmt),(17,.kind ⟨[100,101,112,111,115,105,116],2,[(5,true,false)],[2],false⟩),(1003,.oins 1),(18,.fAmt),(19,.kind ⟨[119,105,116,104,100,114,97,119],2,[(5,true,false)],[2],false⟩),(1006,.oins 2),(20,.fOf),(21,.trade),(22,.row [0]),(23,.kind ⟨[98,117,121],3,[(4,true,false),(5,false,false),(6,false,false)],[0],false⟩),(1011,.oins 3),(24,.fOf),(25,.trade),(26,.row [0,10]),(27,.kind ⟨[115,101,108,108],3,[(4,true,false),(5,false,false),(6,false,false)],[0,10],false⟩),(1016,.oins 4),(28,.fOf),(29,.mk 0),(30,.lim true false),(1020,.ins 0 7),(31,.same 29 0),(32,.row [0]),(33,.kind ⟨[105,110,99,111,109,101],1,[(7,true,false)],[0],false⟩),(1024,.oins 5),(34,.fAmt),(35,.kind ⟨[101,120,112,101,110,115,101],2,[(5,true,false)],[2],false⟩),(1027,.oins 6),(36,.fWc),(37,.fOf),(38,.mk 1),(39,.lim true false),(1032,.ins 1 4),(40,.lim true false),(1034,.ins 1 5),(41,.same 38 1),(42,.row [1,2]),(43,.kind ⟨[99,111,110,118,101,114,116],2,[(4,true,false),(5,true,false)],[1,2],false⟩),(44,.kind ⟨[99,111,110,118,101,114,116],2,[(4,true,false),(5,true,false)],[1,2],true⟩),(1039,.oins 7),(45,.fOf),(46,.mk 2),(47,.lim false false),(1043,.ins 2 7),(48,.lim true false),(1045,.ins 2 8),(49,.same 46 2),(50,.row [0]),(51,.kind ⟨[115,112,108,105,116],1,[(7,false,false),(8,true,false)],[0],false⟩),(1049,.oins 8),(52,.fOf),(53,.mk 3),(54,.lim false false),(1053,.ins 3 7),(55,.lim true false),(1055,.ins 3 8),(56,.lim false true),(1057,.ins 3 9),(57,.same 53 3),(58,.row [0,1]),(59,.kind ⟨[115,112,105,110,111,102,102],1,[(7,false,false),(8,true,false),(9,false,true)],[0,1],false⟩),(1061,.oins 9),(60,.fOf),(61,.row [0,11]),(62,.kind ⟨[101,120,99,104,97,110,103,101],1,[],[0,11],false⟩),(1065,.oins 10),(63,.fOf),(64,.row [0,3,12]),(65,.kind ⟨[101,108,101,99,116],4,[],[0,3,12],false⟩),(1069,.oins 11),(66,.fOf),(67,.mk 4),(68,.lim true false),(1073,.ins 4 4),(69,.lim false false),(1075,.ins 4 7),(70,.lim true false),(1077,.ins 4 8),(71,.same 67 4),(72,.row [0,1]),(73,.kind ⟨[101,120,101,114,99,105,115,101],3,[(4,true,false),(7,false,false),(8,true,false)],[0,1],false⟩),(1081,.oins 12),(74,.fOf),(75,.mk 5),(76,.lim true false),(1085,.ins 5 7),(77,.same 75 5),(78,.row [0]),(79,.kind ⟨[99,97,112,105,116,97,108],1,[(7,true,false)],[0],false⟩),(1089,.oins 13),(80,.fOf),(81,.mk 6),(82,.lim false false),(1093,.ins 6 7),(83,.same 81 6),(84,.row [0]),(85,.kind ⟨[99,97,108,108],1,[(7,false,false)],[0],false⟩),(1097,.oins 14),(86,.fOf),(87,.mk 7),(88,.lim false false),(1101,.ins 7 7),(89,.same 87 7),(90,.row [0]),(91,.kind ⟨[112,114,105,99,101],4,[(7,false,false)],[0],false⟩),(1105,.oins 15),(92,.fWc),(93,.fOf),(94,.mk 8),(95,.lim true false),(1110,.ins 8 8),(96,.same 94 8),(97,.row [1,2]),(98,.kind ⟨[114,97,116,101],4,[(8,true,false)],[1,2],false⟩),(99,.kind ⟨[114,97,116,101],4,[(8,true,false)],[1,2],true⟩),(1115,.oins 16),(100,.fAmt),(101,.kind ⟨[105,115,115,117,101],2,[(5,true,false)],[2],false⟩),(1118,.oins 17),(102,.fAmt),(103,.kind ⟨[99,97,110,99,101,108],2,[(5,true,false)],[2],false⟩),(1121,.oins 18),(104,.osame 15),(0,.osame 15)]
theorem Lf:(dK.map Prod.fst).Nodup:=by decide +kernel
end
section
open Go Go.RowKit Go.Maps Go.MapKept Go.WideElems
inductive qY where
 |val (v:Value) (t:TypeId)
 |row (l:List Int)
 |done (nums:List (Int×Bool×Bool))
 |wip (j:Nat) (ks:List Int)
 |out (ks:List Int)
abbrev bD:=Nat->Option qY
def rY(R:Value->Bool×Bool->Prop)(nums:List (Int×Bool×Bool))(kvs:List (Int×Value)):Prop:=∀p,p∈kvs->∃q,q∈nums/\p.1=q.1/\R p.2 q.2
def qX(h:bD)(v:Value)(k:bH):Prop:=∃mv,v=.agg (aK k.word k.cls k.has (.map mv) k.code)/\((mv=none/\k.nums=[])∨∃b,mv=some b/\h b=some (.done k.nums))
def qY.firm:qY->Bool
 | .val _ _=>true
 | .row _=>true
 | .done _=>true
 |_=>false
def nB(h h':bD):Prop:=∀b d,h b=some d->d.firm=true->h' b=some d
def bD.set(h:bD)(b:Nat)(d:qY):bD:=fun x=>if x=b then some d else h x
theorem bD.set_ne{h:bD}{b x:Nat}{d:qY}(hne:x≠b):h.set b d x=h x:=by simp[bD.set,hne]
theorem qX.firm{h h':bD}{v:Value}{k:bH}(H:qX h v k)(hf:nB h h'):qX h' v k:=by
 obtain⟨mv,e,H⟩:=H;refine⟨mv,e,H.imp id ?_⟩;rintro⟨b,e,h1⟩;exact⟨b,e,hf _ _ h1 rfl⟩
theorem rY.mono{R S:Value->Bool×Bool->Prop}{nums:List (Int×Bool×Bool)}{kvs:List (Int×Value)}(H:rY R nums kvs)(hi:∀v pq,R v pq->S v pq):rY S nums kvs:=fun p hp=>by
 obtain⟨q,hq,e,hr⟩:=H p hp;exact⟨q,hq,e,hi _ _ hr⟩
theorem nB.set{h:bD}{b:Nat}{d:qY}(H:∀d0,h b=some d0->d0.firm=false):nB h (h.set b d):=by
 intro x d0 e hf
 by_cases hx:x=b
 ·subst hx;rw[H d0 e] at hf;cases hf
 ·rw[bD.set_ne hx];exact e
theorem nB.refl(h:bD):nB h h:=fun _ _ e _=>e
theorem nB.trans{h h' h'':bD}(H:nB h h')(H':nB h' h''):nB h h'':=fun b d e hf=>H' b d (H b d e hf) hf
def on(l:Array Bool)(i:Nat):Prop:=l.getD i false=true
def mE(l:Array Bool)(h:bD)(a:Act)(s j:Nat):Prop :=
 ∃b,a.tmps[s]?=some (.map (some b))/\((h b=some (.done (jH j))/\∀i s' n,dK[i]?=some (s',.ins j n)->on l i)∨∃ks,h b=some (.wip j ks)/\ks.Nodup/\∀i s' n,dK[i]?=some (s',.ins j n)->(on l i↔n∈ks))
def nT(l:Array Bool)(h:bD)(a:Act)(s:Nat):Prop :=
 ∃b ks,a.tmps[s]?=some (.map (some b))/\h b=some (.out ks)/\∀i s' n,dK[i]?=some (s',.oins n)->(on l i↔n∈ks)
theorem mO{i i' s:Nat}{c c':Df}(h:dK[i]?=some (s,c))(h':dK[i']?=some (s,c')):i=i':=by
 have e:(dK.map Prod.fst)[i]?=(dK.map Prod.fst)[i']? := by rw[List.getElem?_map,List.getElem?_map,h,h'];rfl
 have hl:i<(dK.map Prod.fst).length:=by rw[List.length_map];exact(Li.1 h).1
 exact(List.getElem?_inj hl Lf).1 e
theorem eX{l:Array Bool}{i i':Nat}(h:on l i'):on (l.setIfInBounds i true) i':=by
 unfold on at *
 by_cases e:i=i'
 ·subst e;rcases Nat.lt_or_ge i l.size with hl|hl
  ·simp[Array.getD_eq_getD_getElem?,hl]
  ·rw[Array.getD_eq_getD_getElem?,Array.getElem?_eq_none hl] at h;simp at h
 ·rw[Go.getD_set_ne _ e];exact h
theorem dP{l:Array Bool}{i i':Nat}(h:on (l.setIfInBounds i true) i')(hne:i'≠i):on l i':=by
 unfold on at *;rw[Go.getD_set_ne _ (Ne.symm hne)] at h;exact h
end
section
open Go Go.RowKit Go.Maps Go.MapKept Go.WideElems
theorem mE.step{l:Array Bool}{h h':bD}{a a':Act}{i s j:Nat}{c:Df}(hi:dK[i]?=some (s,c))(hu:¬ on l i)(ha:∀x,x≠s->a'.tmps[x]?=a.tmps[x]?)(hc:∀n,c ≠ .ins j n)
  (hb:∀b d,h b=some d->(d=.done (jH j)∨∃ks,d=.wip j ks)->h' b=some d) {i' s':Nat}(hne:i'≠i) (hi':dK[i']?=some (s',.mk j)) (M:mE l h a s' j):mE (l.setIfInBounds i true) h' a' s' j:=by
 obtain⟨b,k1,k2⟩:=M;have hx':∀x sx n,dK[x]?=some (sx,.ins j n)->x≠i:=fun x sx n hx e=>by subst e;rw[hi] at hx;injection hx with hx;injection hx with _ e2;exact hc n e2
 refine⟨b,(ha s' (fun e=>hne (mO (e ▸ hi') hi))).trans k1,?_⟩;rcases k2 with⟨k2,k3⟩|⟨ks,k2,k3,k4⟩
 ·exact .inl ⟨hb _ _ k2 (.inl rfl),fun x sx n hx=>eX (k3 x sx n hx)⟩
 ·exact .inr ⟨ks,hb _ _ k2 (.inr ⟨ks,rfl⟩),k3,fun x sx n hx=>⟨fun ho=>(k4 x sx n hx).1 (dP ho (hx' x sx n hx)),fun hn=>eX ((k4 x sx n hx).2 hn)⟩⟩
theorem nT.step{l:Array Bool}{h h':bD}{a a':Act}{i s:Nat}{c:Df}(hi:dK[i]?=some (s,c))(hu:¬ on l i)(ha:∀x,x≠s->a'.tmps[x]?=a.tmps[x]?)(hc:∀n,c ≠ .oins n)
  (hb:∀b ks,h b=some (.out ks)->h' b=some (.out ks)) {i' s':Nat}(hne:i'≠i) (hi':dK[i']?=some (s',.omk)) (M:nT l h a s'):nT (l.setIfInBounds i true) h' a' s':=by
 obtain⟨b,ks,k1,k2,k3⟩:=M;have hx':∀x sx n,dK[x]?=some (sx,.oins n)->x≠i:=fun x sx n hx e=>by subst e;rw[hi] at hx;injection hx with hx;injection hx with _ e2;exact hc n e2
 exact⟨b,ks,(ha s' (fun e=>hne (mO (e ▸ hi') hi))).trans k1,hb _ _ k2,fun x sx n hx=>⟨fun ho=>(k3 x sx n hx).1 (dP ho (hx' x sx n hx)),fun hn=>eX ((k3 x sx n hx).2 hn)⟩⟩
section
variable {w0 w w':World}{b1 b3 bt:Nat}{VP VL:Value}{h h':bD}{l:Array Bool}{a:Act}{i s:Nat}{Q:Exit->Act->World->Prop}{o:Oper}
theorem ev{a:Act}{s:Nat}{v:Value}(h:a.tmps[s]?=some v):a.eval (.tmp s)=v:=by simp[Act.eval,h]
end
end
section
open Go Go.RowKit Go.Maps Go.MapKept Go.WideElems
section
variable {w0 w:World}{b1 b3 bt:Nat}{VP VL:Value}{h:bD}{l:Array Bool}{a:Act}{Q:Exit->Act->World->Prop}
set_option maxRecDepth 100000
def kS(i:Nat):Nat:=((dK[i]?).map Prod.fst).getD 0
abbrev KC(i:Nat)(c:Df):Prop:=dK[i]?=some (kS i,c)
end
end
section
open Go.RowKit Num
def pW(n d:List UInt8):Int:=bG (eT (iY n d [] []) (iG d [])) 0
def tU(n d:List UInt8):Int:=bG (eT (iY n d [49] []) (iG d [])) 0
def lim(p q:Bool)(n d:List UInt8):Int :=
 if Cu n d=false then 1 else if 40<(body n).length∨40<(body d).length then 4
 else if pW n d<0∨(p=true/\pW n d=0)∨(q=true/\0<tU n d) then 2 else 0
end
section
open Go.RowKit Num
structure bZ where
 n:List UInt8
 d:List UInt8
structure bJ where
 lot:List UInt8
 q:List UInt8
structure eJ where
 other:List UInt8
 ratio:bZ
 price:bZ
 value:bZ
structure aE where
 key:List UInt8
 stamp:Int
 cancelled:Bool
 day:Int
 kind:Int
 ins:List UInt8
 other:List UInt8
 cur:List UInt8
 target:List UInt8
 q:List UInt8
 amt:List UInt8
 fee:List UInt8
 price:bZ
 ratio:bZ
 share:bZ
 picks:List bJ
 options:List eJ
 choice:Int
def gJ(w:World)(a:Option Addr)(sz:Nat)(css:List (List Value)):Prop :=
 css=[]∨∃b off,a=some ⟨b,off,none⟩/\b<w.heap.size/\∀k cs,css[k]?=some cs->∀j v,cs[j]?=some v->w.cell? ⟨b,off+k*sz+j,none⟩=some v
theorem gJ.below{w w':World}{a:Option Addr}{sz:Nat}{css:List (List Value)}(h:gJ w a sz css)(hb:Below w.heap.size w w'):gJ w' a sz css:=by
 rcases h with h|⟨b,off,ha,hlt,hc⟩
 ·exact .inl h
 ·exact .inr ⟨b,off,ha,Nat.lt_of_lt_of_le hlt hb.size,fun k cs hk j v hv=>(hb.cell (p:=⟨b,off+k*sz+j,none⟩) hlt).trans (hc k cs hk j v hv)⟩
theorem gJ.addr{w:World}{a:Option Addr}{sz:Nat}{css:List (List Value)}(h:gJ w a sz css){k:Nat}{cs:List Value}(hk:css[k]?=some cs):
  ∃b off,a=some ⟨b,off,none⟩/\b<w.heap.size/\∀j v,cs[j]?=some v->w.cell? ⟨b,off+k*sz+j,none⟩=some v:=by
 rcases h with h|⟨b,off,ha,hlt,hc⟩
 ·rw[h] at hk;simp at hk
 ·exact⟨b,off,ha,hlt,hc k cs hk⟩
theorem gJ.take{w:World}{a:Option Addr}{sz:Nat}{css:List (List Value)}(h:gJ w a sz css)(n:Nat):gJ w a sz (css.take n):=by
 rcases h with h|⟨b,off,ha,hlt,hc⟩
 ·exact .inl (by rw[h];simp)
 ·refine .inr ⟨b,off,ha,hlt,fun k cs hk j v hv=>hc k cs ?_ j v hv⟩;rw[List.getElem?_take] at hk;split at hk
  ·exact hk
  ·cases hk
def bZ.cells(f:bZ):List Value:=[.string ⟨f.n.toArray⟩,.string ⟨f.d.toArray⟩]
def bZ.agg(f:bZ):Value:=.agg #[.string ⟨f.n.toArray⟩,.string ⟨f.d.toArray⟩]
def bJ.cells(p:bJ):List Value:=[.string ⟨p.lot.toArray⟩,.string ⟨p.q.toArray⟩]
def eJ.cells(o:eJ):List Value:=[.string ⟨o.other.toArray⟩,.string ⟨o.ratio.n.toArray⟩,.string ⟨o.ratio.d.toArray⟩,.string ⟨o.price.n.toArray⟩,.string ⟨o.price.d.toArray⟩,.string ⟨o.value.n.toArray⟩,.string ⟨o.value.d.toArray⟩]
def aE.cells(f:aE)(pa:Option Addr)(pc:Nat)(oa:Option Addr)(oc:Nat):Array Value :=
 #[.string ⟨f.key.toArray⟩,.int .i64 f.stamp,.bool f.cancelled,.int .i64 f.day,.int .i64 f.kind,.string ⟨f.ins.toArray⟩,.string ⟨f.other.toArray⟩,.string ⟨f.cur.toArray⟩,.string ⟨f.target.toArray⟩,.string ⟨f.q.toArray⟩,.string ⟨f.amt.toArray⟩,.string ⟨f.fee.toArray⟩,
  .string ⟨f.price.n.toArray⟩,.string ⟨f.price.d.toArray⟩,.string ⟨f.ratio.n.toArray⟩,.string ⟨f.ratio.d.toArray⟩,.string ⟨f.share.n.toArray⟩,.string ⟨f.share.d.toArray⟩,.slice pa f.picks.length pc,.slice oa f.options.length oc,.int .i64 f.choice]
def aE.Behind(f:aE)(w:World)(pa:Option Addr)(oa:Option Addr):Prop:=gJ w pa 2 (f.picks.map bJ.cells)/\gJ w oa 7 (f.options.map eJ.cells)
theorem aE.Behind.below{f:aE}{w w':World}{pa oa:Option Addr}(h:f.Behind w pa oa)(hb:Below w.heap.size w w'):f.Behind w' pa oa:=⟨h.1.below hb,h.2.below hb⟩
def bZ.small(f:bZ):Prop:=f.n.length<=400/\f.d.length<=400
def bJ.small(p:bJ):Prop:=p.lot.length<=1000/\p.q.length<=400
def eJ.small(o:eJ):Prop:=o.other.length<=1000/\o.ratio.small/\o.price.small/\o.value.small
structure aE.small(f:aE):Prop where
 key:f.key.length<=1000
 ins:f.ins.length<=1000
 other:f.other.length<=1000
 cur:f.cur.length<=1000
 target:f.target.length<=1000
 q:f.q.length<=400
 amt:f.amt.length<=400
 fee:f.fee.length<=400
 price:f.price.small
 ratio:f.ratio.small
 share:f.share.small
 picks:f.picks.length<=1000
 pick:∀p,p∈f.picks->p.small
 options:f.options.length<=1000
 option:∀o,o∈f.options->o.small
end
section
open Go.RowKit Num
def bZ.none(f:bZ):Bool:=f.n.isEmpty&&f.d.isEmpty
end
section
open Go.RowKit Num
def aE.num(f:aE)(i:Nat):bZ:=if i=4 then⟨f.q,[]⟩ else if i=5 then⟨f.amt,[]⟩ else if i=6 then⟨f.fee,[]⟩ else if i=7 then f.price else if i=8 then f.ratio else f.share
end
section
open Go.RowKit Num
def aE.zero(f:aE)(i:Nat):Bool :=
 if i=0 then f.ins.isEmpty else if i=1 then f.other.isEmpty else if i=2 then f.cur.isEmpty else if i=3 then f.target.isEmpty else if i=10 then decide (f.picks.length=0) else if i=11 then decide (f.options.length=0) else if i=12 then decide (f.choice=0) else(f.num i).none
end
section
open Go Go.RowKit Num
theorem xM{ops:Array Oper}{md:Region.Mode}{l:Array Bool}(hsz:l.size=ops.size)(hfw:∀(i:Nat) (o:Oper),ops[i]?=some o->∀e∈o.after,Region.binds md e=true->e.on<i)(h:Region.ready md ops l=[]):∀i,i<ops.size->l.getD i true=true:=by
 intro i
 induction i using Nat.strongRecOn with
 |ind i ih =>
  intro hi;cases hl:l.getD i true with
  |true=>rfl
  |false =>
   exfalso;have:i∈Region.ready md ops l:=by
    refine mem_ready.2 ⟨hl,ops[i],Array.getElem?_eq_getElem hi,fun e he hbd=>?_⟩;have hlt:=hfw i ops[i] (Array.getElem?_eq_getElem hi) e he hbd;have:=ih e.on hlt (by omega);rw[Array.getD_eq_getD_getElem?,Array.getElem?_eq_getElem (by omega)] at this ⊢;exact this
   rw[h] at this;simp at this
def lP(l:Array Bool)(i:Nat):Prop:=l.getD i false=true
theorem fH{l:Array Bool}{i i':Nat}(h:lP l i'):lP (l.setIfInBounds i true) i':=by
 unfold lP at *
 by_cases e:i=i'
 ·subst e;rcases Nat.lt_or_ge i l.size with hl|hl
  ·simp[Array.getD_eq_getD_getElem?,hl]
  ·rw[Array.getD_eq_getD_getElem?,Array.getElem?_eq_none hl] at h;simp at h
 ·rw[Go.getD_set_ne _ e];exact h
theorem mQ{l:Array Bool}{i i':Nat}(h:lP (l.setIfInBounds i true) i')(hne:i'≠i):lP l i':=by
 unfold lP at *;rw[Go.getD_set_ne _ (Ne.symm hne)] at h;exact h
theorem dY{a:Act}{s x:Nat}{v:Value}(h:x≠s):(a.put (some s) v).tmps[x]?=a.tmps[x]? := by
 simp[Act.put,Array.getElem?_setIfInBounds_ne (Ne.symm h)]
theorem dE{a:Act}{s:Nat}{v:Value}(h:s<a.tmps.size):(a.put (some s) v).tmps[s]?=some v:=by
 simp[Act.put,h]
end
section
open Go
section
variable {n:Nat}{P:Program}{ops:Array Oper}{Q:Exit->Act->World->Prop}{md:Region.Mode}
theorem Ft{F:Fence}(I:Array Bool->Act->World->Prop)(hdone:∀l a w,I l a w->Region.ready md ops l=[]->Q .normal a w)
  (hstep:∀l a w i,I l a w->i∈Region.ready md ops l->wpOpIn F n P ops Q i (I (l.setIfInBounds i true)) a w) :
  ∀fuel l a w,jC ops l<=fuel->I l a w->wpAnyIn F n P md ops Q fuel l a w:=by
 intro fuel
 induction fuel with
 |zero =>
  intro l a w hc hi;have hr:Region.ready md ops l=[]:=by
   cases h:Region.ready md ops l with
   |nil=>rfl
   |cons i r =>
    have:=lW (md:=md) (ops:=ops) (l:=l) (i:=i) (by rw[h];simp);omega
  exact⟨hr,hdone l a w hi hr⟩
 |succ n ih =>
  intro l a w hc hi;refine⟨hdone l a w hi,fun i hr=>wpOpIn_mono (fun a' w' h'=>ih _ a' w' ?_ h') (hstep l a w i hi hr)⟩;have:=lW hr;omega
theorem Ce{F:Fence}{i:Nat}{o:Oper}{K:Act->World->Prop}{a:Act}{w:World}(ho:ops[i]?=some o)(hg:Region.wanted o (yielded ops a.tmps)=true)(h:o.wpIn F n P a w K Q):wpOpIn F n P ops Q i K a w:=by
 unfold wpOpIn;rw[ho];simp only[hg,if_true];exact h
end
section
variable {n:Nat}{P:Program}{Q:Exit->Act->World->Prop}{o:Oper}{K:Act->World->Prop}{a:Act}{w w':World}
theorem Xm{v:Value}(h:(execOp a.eval o).run P w=.ok (.value v) w')(hk:K (a.put o.dst v) w'):o.wpIn Fence.wide n P a w K Q:=by
 refine⟨fun _ _=>trivial,?_⟩;show o.uponIn Fence.wide n P a K Q ((execOp a.eval o).run P w);rw[h];exact hk
end
end
section
open Go Go.RowKit
def gv(b:Bool)(v:Value):Value:=if b=true then v else undef
def sR(ops:Array Oper):List (Nat×Nat):=(List.range ops.size).filterMap fun i=>(ops[i]?).bind fun o=>o.dst.map fun s=>(i,s)
theorem pG{ops:Array Oper}{i s:Nat}:(i,s)∈sR ops↔∃o,ops[i]?=some o/\o.dst=some s:=by
 unfold sR;rw[List.mem_filterMap];constructor
 ·rintro⟨k,_,h⟩;cases ho:ops[k]? with
  |none=>rw[ho] at h;cases h
  |some o =>
   rw[ho] at h;simp only[Option.bind_some,Option.map_eq_some_iff] at h;obtain⟨s',h1,h2⟩:=h;injection h2 with e1 e2
   subst e1 e2;exact⟨o,ho,h1⟩
 ·rintro⟨o,ho,h⟩;exact⟨i,List.mem_range.2 (Ai.1 ho).1,by rw[ho];simp[h]⟩
def Uq(md:Region.Mode)(ops:Array Oper):Bool:=(List.range ops.size).all fun i=>((ops[i]?).map fun o=>o.after.all fun e=>!Region.binds md e || decide (e.on<i)).getD true
def iZ(f:Nat->Value)(ds:List (Nat×Nat))(t:Array Value):Array Value:=ds.foldl (fun t p=>t.setIfInBounds p.2 (f p.1)) t
theorem aKr(f:Nat->Value):∀(ds:List (Nat×Nat)) (t:Array Value),(iZ f ds t).size=t.size
 | [],_=>rfl
 |p::r,t=>by
  have:=aKr f r (t.setIfInBounds p.2 (f p.1));simpa[iZ] using this
theorem zI(f:Nat->Value):∀(ds:List (Nat×Nat)) (t:Array Value) (x:Nat),x ∉ ds.map Prod.snd->(iZ f ds t)[x]?=t[x]?
 | [],_,_,_=>rfl
 |p::r,t,x,h=>by
  simp only[List.map_cons,List.mem_cons,not_or] at h;have:=zI f r (t.setIfInBounds p.2 (f p.1)) x h.2;show (iZ f r (t.setIfInBounds p.2 (f p.1)))[x]?=_;rw[this,Array.getElem?_setIfInBounds_ne (Ne.symm h.1)]
theorem Of(f:Nat->Value):∀(ds:List (Nat×Nat)) (t:Array Value),(ds.map Prod.snd).Nodup->(∀p,p∈ds->p.2<t.size)->∀i s,(i,s)∈ds->(iZ f ds t)[s]?=some (f i)
 | [],_,_,_,i,s,h=>by cases h
 |p::r,t,hn,hs,i,s,h=>by
  rw[List.map_cons,List.nodup_cons] at hn;show (iZ f r (t.setIfInBounds p.2 (f p.1)))[s]?=_;rcases List.mem_cons.1 h with e|h
  ·subst e;rw[zI f r _ s hn.1];have:=hs (i,s) (List.mem_cons_self);simp only at this;simp[this]
  ·exact Of f r _ hn.2 (fun q hq=>by rw[Array.size_setIfInBounds];exact hs q (List.mem_cons_of_mem _ hq)) i s h
section
variable {Γ:Type}{P:Program}{ops:Array Oper}{md:Region.Mode}{ds:List (Nat×Nat)}{val:Γ->Nat->Value}{G:Γ->Array Bool->World->Prop}{t0:Array Value}{d0:List Deferred}{Q:Exit->Act->World->Prop}{n:Nat}
structure uL(ops:Array Oper)(md:Region.Mode)(ds:List (Nat×Nat))(val:Γ->Nat->Value)(G:Γ->Array Bool->World->Prop)(t0:Array Value)(d0:List Deferred)(γ:Γ)(l:Array Bool)(a:Act)(w:World):Prop where
 sz:l.size=ops.size
 ts:a.tmps.size=t0.size
 df:a.defers=d0
 lo:∀x,x ∉ ds.map Prod.snd->a.tmps[x]?=t0[x]?
 vs:∀i s,(i,s)∈ds->lP l i->a.tmps[s]?=some (val γ i)
 cl:∀i o,ops[i]?=some o->lP l i->∀e∈o.after,Region.binds md e=true->lP l e.on
 g:G γ l w
def pY(ops:Array Oper)(val:Γ->Nat->Value)(G:Γ->Array Bool->World->Prop)(γ:Γ)(l:Array Bool)(a:Act)(i:Nat)(a':Act)(w':World):Prop :=
 ∃o v γ',ops[i]?=some o/\a'=a.put o.dst v/\v=val γ' i/\(∀j,lP l j->val γ' j=val γ j)/\G γ' (l.setIfInBounds i true) w'
theorem uL.step(hds:sR ops=ds)(hnd:(ds.map Prod.snd).Nodup)(hlt:∀p,p∈ds->p.2<t0.size){γ:Γ}{l:Array Bool}{a a':Act}{w w':World}{i:Nat}(H:uL ops md ds val G t0 d0 γ l a w)(hr:i∈Region.ready md ops l)
  (h:pY ops val G γ l a i a' w'):∃ γ',uL ops md ds val G t0 d0 γ' (l.setIfInBounds i true) a' w':=by
 obtain⟨o,v,γ',ho,rfl,rfl,hst,hg⟩:=h;obtain⟨_,o',ho',hall⟩:=mem_ready.1 hr;obtain rfl:o=o':=by rw[ho] at ho';exact Option.some.inj ho'
 have hmem:∀s,o.dst=some s->(i,s)∈ds:=fun s hs=>by rw[<-hds];exact pG.2 ⟨o,ho,hs⟩
 have hil:i<l.size:=by rw[H.sz];exact(Ai.1 ho).1
 refine⟨γ',by simpa using H.sz,?_,?_,fun x hx=>?_,fun j s hj hon=>?_,fun j p hp hon e he hb=>?_,hg⟩
 ·cases hd:o.dst <;> simpa[Act.put] using H.ts
 ·cases hd:o.dst <;> simpa[Act.put] using H.df
 ·cases hd:o.dst with
  |none=>exact H.lo x hx
  |some s=>exact(dY fun e=>hx (List.mem_map.2 ⟨_,hmem s hd,e.symm⟩)).trans (H.lo x hx)
 ·by_cases e:j=i
  ·subst e;have:o.dst=some s:=by
    rw[<-hds] at hj;obtain⟨o2,ho2,h2⟩:=pG.1 hj;rw[ho] at ho2;rw[Option.some.inj ho2];exact h2
   rw[this];exact dE (by rw[H.ts];exact hlt _ hj)
  ·have hjo:=mQ hon e;rw[hst j hjo];cases hd:o.dst with
   |none=>exact H.vs j s hj hjo
   |some s' =>
    refine(dY fun es=>?_).trans (H.vs j s hj hjo);subst es;have h1:=hmem s hd;obtain⟨k1,hk1,e1⟩:=List.mem_iff_getElem.1 hj;obtain⟨k2,hk2,e2⟩:=List.mem_iff_getElem.1 h1;have hk1':k1<(ds.map Prod.snd).length:=by simpa using hk1
    have hk2':k2<(ds.map Prod.snd).length:=by simpa using hk2
    have:k1=k2:=(List.getElem_inj (h₀:=hk1') (h₁:=hk2') hnd).1 (by simp[e1,e2]);subst this;rw[e1] at e2;injection e2 with e2
    exact e e2
 ·by_cases e1:j=i
  ·subst e1;rw[ho] at hp;obtain rfl:=Option.some.inj hp;exact fH (hall e he hb)
  ·exact fH (H.cl j p hp (mQ hon e1) e he hb)
theorem uL.done(hds:sR ops=ds)(hnd:(ds.map Prod.snd).Nodup)(hlt:∀p,p∈ds->p.2<t0.size){γ:Γ}{l:Array Bool}{a:Act}{w:World}(H:uL ops md ds val G t0 d0 γ l a w)(hall:∀i,i<ops.size->lP l i):a = { tmps:=iZ (val γ) ds t0,defers:=d0 }:=by
 obtain⟨t,d⟩:=a;have hd:d=d0:=H.df;subst hd;have:t=iZ (val γ) ds t0:=by
  apply Array.ext_getElem?;intro x
  by_cases hx:x∈ds.map Prod.snd
  ·obtain⟨⟨i,s⟩,hm,rfl⟩:=List.mem_map.1 hx;rw[Of (val γ) ds t0 hnd hlt i s hm];have hm':=hm;rw[<-hds] at hm';obtain⟨o,ho,_⟩:=pG.1 hm';exact H.vs i s hm (hall i (Ai.1 ho).1)
  ·rw[zI _ _ _ _ hx];exact H.lo x hx
 rw[this]
theorem Hz(hfw:Uq md ops=true){l:Array Bool}(hsz:l.size=ops.size)(hr:Region.ready md ops l=[]):∀i,i<ops.size->lP l i:=fun i hlt=>by
 have:=xM hsz (fun i o ho e he hbd=>?_) hr i hlt
 ·unfold lP;rw[Array.getD_eq_getD_getElem?,Array.getElem?_eq_getElem (by rw[hsz];exact hlt)] at this ⊢;exact this
 ·have hl:=(Ai.1 ho).1;have h1:=List.all_eq_true.1 hfw i (List.mem_range.2 hl);rw[ho] at h1;simp only[Option.map_some,Option.getD_some,Array.all_eq_true,Bool.or_eq_true,Bool.not_eq_true',decide_eq_true_eq] at h1;obtain⟨k,hk,rfl⟩:=Array.getElem_of_mem he;rcases h1 k hk with h2|h2
  ·rw[hbd] at h2;cases h2
  ·exact h2
theorem Gu(N i:Nat):¬ lP (Array.replicate N false) i:=by
 unfold lP;rw[Array.getD_eq_getD_getElem?,Array.getElem?_replicate];split <;> simp
theorem vS(l:Array Bool):jC ops l<=ops.size:=by
 unfold jC;refine Nat.le_trans List.countP_le_length ?_;rw[List.length_range];exact Nl _
theorem zY{γ:Γ}{a:Act}{w:World}(hdf:a.defers=d0)(ht:a.tmps=t0)(hg:G γ (Array.replicate ops.size false) w):uL ops md ds val G t0 d0 γ (Array.replicate ops.size false) a w :=
 ⟨by simp,by rw[ht],hdf,fun x _=>by rw[ht],fun i _ _ h=>absurd h (Gu _ i),fun i _ _ h=>absurd h (Gu _ i),hg⟩
theorem dCy(hm:P.follows .mixedOrders=true)(hds:sR ops=ds)(hnd:(ds.map Prod.snd).Nodup)(hlt:∀p,p∈ds->p.2<t0.size)(hfw:Uq .any ops=true)
  (hstep:∀ γ l a w i,uL ops .any ds val G t0 d0 γ l a w->i∈Region.ready .any ops l->wpOp P ops Q i (pY ops val G γ l a i) a w)
  {id:Nat}{γ:Γ}{a:Act}{w:World}(hdf:a.defers=d0) (ht:a.tmps=t0) (hg:G γ (Array.replicate ops.size false) (w.drewN 1))
  (hQ:∀ γ l W,(∀i,i<ops.size->lP l i)->G γ l W->Q .normal { tmps:=iZ (val γ) ds t0,defers:=d0 } W):(Code.region id ops true).wp P Q a w:=by
 refine wp_region_any hm ?_;refine uQ (fun l a w=>∃ γ,uL ops .any ds val G t0 d0 γ l a w) (fun l a w hi hr=>?_) (fun l a w i hi hr=>?_) _ _ _ _ (vS _) ⟨γ,zY hdf ht hg⟩
 ·obtain⟨γ,H⟩:=hi;have hall:=Hz hfw H.sz hr;have:=H.done hds hnd hlt hall;subst this;exact hQ γ l w hall H.g
 ·obtain⟨γ,H⟩:=hi;exact wpOp_mono (fun a' w' h=>H.step hds hnd hlt hr h) (hstep γ l a w i H hr)
theorem Bq(hm:P.follows .mixedOrders=true)(hds:sR ops=ds)(hnd:(ds.map Prod.snd).Nodup)(hlt:∀p,p∈ds->p.2<t0.size)(hfw:Uq .any ops=true)
  (hstep:∀ γ l a w i,uL ops .any ds val G t0 d0 γ l a w->i∈Region.ready .any ops l->wpOpIn Fence.wide n P ops Q i (pY ops val G γ l a i) a w)
  {id:Nat}{γ:Γ}{a:Act}{w:World}(hdf:a.defers=d0) (ht:a.tmps=t0) (hg:G γ (Array.replicate ops.size false) (w.drewN 1))
  (hQ:∀ γ l W,(∀i,i<ops.size->lP l i)->G γ l W->Q .normal { tmps:=iZ (val γ) ds t0,defers:=d0 } W):(Code.region id ops true).wpIn Fence.wide n P Q a w:=by
 refine wpIn_region_any hm ?_;refine Ft (fun l a w=>∃ γ,uL ops .any ds val G t0 d0 γ l a w) (fun l a w hi hr=>?_) (fun l a w i hi hr=>?_) _ _ _ _ (vS _) ⟨γ,zY hdf ht hg⟩
 ·obtain⟨γ,H⟩:=hi;have hall:=Hz hfw H.sz hr;have:=H.done hds hnd hlt hall;subst this;exact hQ γ l w hall H.g
 ·obtain⟨γ,H⟩:=hi;exact wpOpIn_mono (fun a' w' h=>H.step hds hnd hlt hr h) (hstep γ l a w i H hr)
theorem uL.dep{γ:Γ}{l:Array Bool}{a:Act}{w:World}{i:Nat}(H:uL ops md ds val G t0 d0 γ l a w)(hr:i∈Region.ready md ops l)(d s:Nat)(hd:((ops[i]?).map fun o=>o.after.any fun e=>e.on==d&&Region.binds md e)=some true:=by kernel_rfl)(hs:(i,s)=(i,s)/\(d,s)∈ds:=by exact⟨rfl,by decide⟩):a.tmps[s]?=some (val γ d) :=
 H.vs d s hs.2 (aG hr hd)
theorem uL.low{γ:Γ}{l:Array Bool}{a:Act}{w:World}(H:uL ops md ds val G t0 d0 γ l a w){s:Nat}{v:Value}(h:(ds.map Prod.snd).contains s=false)(e:t0[s]?=some v):a.tmps[s]?=some v :=
 (H.lo s (by intro hc;rw[<-Bool.not_eq_true] at h;exact h (by simpa using hc))).trans e
section
variable {γ:Γ}{l:Array Bool}{a:Act}{w:World}{i:Nat}
theorem aH{X:Op}{v:Value}{w':World}(hX:(ops[i]?).map (fun o=>(o.op,o.guard))=some (X,none))(hrun:∀o:Oper,o.op=X->(execOp a.eval o).run P w=.ok (.value v) w')(hv:v=val γ i)(hg:G γ (l.setIfInBounds i true) w'):wpOp P ops Q i (pY ops val G γ l a i) a w:=by
 cases ho:ops[i]? with
 |none=>rw[ho] at hX;cases hX
 |some o =>
  rw[ho] at hX;simp only[Option.map_some,Option.some.injEq,Prod.mk.injEq] at hX;refine bU ho hX.2 ?_;unfold Oper.wp;rw[hrun o hX.1];exact⟨o,v,γ,ho,rfl,hv,fun _ _=>rfl,hg⟩
theorem aWj(X:Op)(v:Value){w':World}(hrun:∀o:Oper,o.op=X->(execOp a.eval o).run P w=.ok (.value v) w')(hg:G γ (l.setIfInBounds i true) w')(hX:(ops[i]?).map (fun o=>(o.op,o.guard))=some (X,none):=by kernel_rfl)(hv:v=val γ i:=by rfl):wpOp P ops Q i (pY ops val G γ l a i) a w:=aH hX hrun hv hg
theorem aLg{X:Op}{v:Value}{w':World}(γ':Γ)(hst:∀j,lP l j->val γ' j=val γ j)(hX:(ops[i]?).map (fun o=>(o.op,o.guard))=some (X,none))(hrun:∀o:Oper,o.op=X->(execOp a.eval o).run P w=.ok (.value v) w')(hv:v=val γ' i)(hg:G γ' (l.setIfInBounds i true) w'):wpOp P ops Q i (pY ops val G γ l a i) a w:=by
 cases ho:ops[i]? with
 |none=>rw[ho] at hX;cases hX
 |some o =>
  rw[ho] at hX;simp only[Option.map_some,Option.some.injEq,Prod.mk.injEq] at hX;refine bU ho hX.2 ?_;unfold Oper.wp;rw[hrun o hX.1];exact⟨o,v,γ',ho,rfl,hv,hst,hg⟩
theorem gA{f:FuncId}{lb:Array Value}{c:Operand}{args:Array Operand}{ts:Array TypeId}{vs:Array Value}(hX:(ops[i]?).map (fun o=>(o.op,o.guard))=some (.call { callee:=.value c,args:=args,argTypes:=ts },none))(hc:a.eval c=.func (.func f) #[] lb)(eg:∀args w,(callFunc f args).run P w=.ok (.enter f args) w)
  (ha:args.map a.eval++lb=vs) (h:Calls P f vs w fun e w'=>∃v γ',e=.returned v/\v=val γ' i/\(∀j,lP l j->val γ' j=val γ j)/\G γ' (l.setIfInBounds i true) w'):wpOp P ops Q i (pY ops val G γ l a i) a w:=by
 cases ho:ops[i]? with
 |none=>rw[ho] at hX;cases hX
 |some o =>
  rw[ho] at hX;simp only[Option.map_some,Option.some.injEq,Prod.mk.injEq] at hX;subst ha;refine bU ho hX.2 (nY hX.1 hc eg (h.mono ?_));rintro e w' ⟨v,γ',rfl,hv,hst,hg⟩;exact⟨v,rfl,o,v,γ',ho,rfl,hv,hst,hg⟩
theorem nL{j s:Nat}{b gb:Bool}{g:Option (Nat×Bool)}(hgd:(ops[i]?).map (·.guard)=some g)(hg:g=some (j,b))(hj:(ops[j]?).bind (·.dst)=some s)(hv:a.tmps[s]?=some (.bool gb)):∀o,ops[i]?=some o->Region.wanted o (yielded ops a.tmps)=(gb==b):=by
 intro o ho;rw[ho] at hgd;simp only[Option.map_some,Option.some.injEq] at hgd;unfold Region.wanted yielded;rw[hgd,hg];simp only[hj,Option.bind_some,hv];cases gb <;> cases b <;> rfl
theorem Cv(hw:∀o,ops[i]?=some o->Region.wanted o (yielded ops a.tmps)=false)(hi:i<ops.size)(hv:undef=val γ i)(hg:G γ (l.setIfInBounds i true) w):wpOp P ops Q i (pY ops val G γ l a i) a w:=by
 have ho:ops[i]?=some ops[i]:=Array.getElem?_eq_getElem hi;unfold wpOp;rw[ho];simp only[hw _ ho];exact⟨_,_,γ,ho,rfl,hv,fun _ _=>rfl,hg⟩
theorem bMv{X:Op}{v:Value}{w':World}(hX:(ops[i]?).map (·.op)=some X)(hw:∀o,ops[i]?=some o->Region.wanted o (yielded ops a.tmps)=true)(hrun:∀o:Oper,o.op=X->(execOp a.eval o).run P w=.ok (.value v) w')(hv:v=val γ i)(hg:G γ (l.setIfInBounds i true) w'):wpOp P ops Q i (pY ops val G γ l a i) a w:=by
 cases ho:ops[i]? with
 |none=>rw[ho] at hX;cases hX
 |some o =>
  rw[ho] at hX;simp only[Option.map_some,Option.some.injEq] at hX;unfold wpOp;rw[ho];simp only[hw o ho,if_true];refine .inl ?_;unfold Oper.wp;rw[hrun o hX];exact⟨o,v,γ,ho,rfl,hv,fun _ _=>rfl,hg⟩
theorem mX{f:FuncId}{lb:Array Value}{c:Operand}{args:Array Operand}{ts:Array TypeId}{vs:Array Value}(hX:(ops[i]?).map (·.op)=some (.call { callee:=.value c,args:=args,argTypes:=ts }))(hw:∀o,ops[i]?=some o->Region.wanted o (yielded ops a.tmps)=true)(hc:a.eval c=.func (.func f) #[] lb)(eg:∀args w,(callFunc f args).run P w=.ok (.enter f args) w)
  (ha:args.map a.eval++lb=vs) (h:Calls P f vs w fun e w'=>∃v γ',e=.returned v/\v=val γ' i/\(∀j,lP l j->val γ' j=val γ j)/\G γ' (l.setIfInBounds i true) w'):wpOp P ops Q i (pY ops val G γ l a i) a w:=by
 cases ho:ops[i]? with
 |none=>rw[ho] at hX;cases hX
 |some o =>
  rw[ho] at hX;simp only[Option.map_some,Option.some.injEq] at hX;subst ha;unfold wpOp;rw[ho];simp only[hw o ho,if_true];refine .inl (nY hX hc eg (h.mono ?_));rintro e w' ⟨v,γ',rfl,hv,hst,hg⟩;exact⟨v,rfl,o,v,γ',ho,rfl,hv,hst,hg⟩
theorem dH{X:Op}{v:Value}{j s:Nat}{gb:Bool}(hX:(ops[i]?).map (·.op)=some X)(hgd:(ops[i]?).map (·.guard)=some (some (j,true)))(hj:(ops[j]?).bind (·.dst)=some s)(hv:a.tmps[s]?=some (.bool gb))(hval:val γ i=if gb=true then v else undef)
  (hrun:gb=true->∀o:Oper,o.op=X->(execOp a.eval o).run P w=.ok (.value v) w) (hg:G γ (l.setIfInBounds i true) w):wpOp P ops Q i (pY ops val G γ l a i) a w:=by
 have hw:=nL (i:=i) hgd rfl hj hv;cases gb with
 |true=>exact bMv hX hw (hrun rfl) hval.symm hg
 |false =>
  cases ho:ops[i]? with
  |none=>rw[ho] at hX;cases hX
  |some o=>exact Cv hw (Ai.1 ho).1 hval.symm hg
theorem qL{f:FuncId}{lb:Array Value}{c:Operand}{args:Array Operand}{ts:Array TypeId}{vs:Array Value}{j s:Nat}{gb:Bool}(hX:(ops[i]?).map (·.op)=some (.call { callee:=.value c,args:=args,argTypes:=ts }))(hgd:(ops[i]?).map (·.guard)=some (some (j,true)))(hj:(ops[j]?).bind (·.dst)=some s)(hv:a.tmps[s]?=some (.bool gb))
  (hc:a.eval c=.func (.func f) #[] lb) (eg:∀args w,(callFunc f args).run P w=.ok (.enter f args) w) (h0:gb=false->val γ i=undef) (hg0:gb=false->G γ (l.setIfInBounds i true) w)
  (ha:gb=true->args.map a.eval++lb=vs) (h:gb=true->Calls P f vs w fun e w'=>∃v γ',e=.returned v/\v=val γ' i/\(∀j,lP l j->val γ' j=val γ j)/\G γ' (l.setIfInBounds i true) w'):wpOp P ops Q i (pY ops val G γ l a i) a w:=by
 have hw:=nL (i:=i) hgd rfl hj hv;cases gb with
 |true=>exact mX hX hw hc eg (ha rfl) (h rfl)
 |false =>
  cases ho:ops[i]? with
  |none=>rw[ho] at hX;cases hX
  |some o=>exact Cv hw (Ai.1 ho).1 (h0 rfl).symm (hg0 rfl)
theorem sQ{X:Op}{v:Value}{w':World}(hX:(ops[i]?).map (fun o=>(o.op,o.guard))=some (X,none))(hrun:∀o:Oper,o.op=X->(execOp a.eval o).run P w=.ok (.value v) w')(hv:∀s,(i,s)∈sR ops->v=val γ i)(hg:G γ (l.setIfInBounds i true) w'):wpOpIn Fence.wide n P ops Q i (pY ops val G γ l a i) a w:=by
 cases ho:ops[i]? with
 |none=>rw[ho] at hX;cases hX
 |some o =>
  rw[ho] at hX;simp only[Option.map_some,Option.some.injEq,Prod.mk.injEq] at hX;refine Ce ho (by simp[Region.wanted,hX.2]) (Xm (hrun o hX.1) ?_);cases hd:o.dst with
  |none=>exact⟨o,val γ i,γ,ho,by rw[hd];rfl,rfl,fun _ _=>rfl,hg⟩
  |some s=>exact⟨o,v,γ,ho,by rw[hd],hv s (pG.2 ⟨o,ho,hd⟩),fun _ _=>rfl,hg⟩
theorem Ia{X:Op}{w':World}(hX:(ops[i]?).map (fun o=>(o.op,o.guard,o.dst))=some (X,none,none))(hrun:∀o:Oper,o.op=X->(execOp a.eval o).run P w=.ok .skip w')(hg:G γ (l.setIfInBounds i true) w'):wpOpIn Fence.wide n P ops Q i (pY ops val G γ l a i) a w:=by
 cases ho:ops[i]? with
 |none=>rw[ho] at hX;cases hX
 |some o =>
  rw[ho] at hX;simp only[Option.map_some,Option.some.injEq,Prod.mk.injEq] at hX;obtain⟨h1,h2,h3⟩:=hX;refine Ce ho (by simp[Region.wanted,h2]) ⟨fun _ _=>trivial,?_⟩;show o.uponIn Fence.wide n P a _ Q ((execOp a.eval o).run P w);rw[hrun o h1];exact⟨o,val γ i,γ,ho,by rw[h3];rfl,rfl,fun _ _=>rfl,hg⟩
theorem aH0{X:Op}{w':World}(hX:(ops[i]?).map (fun o=>(o.op,o.guard,o.dst))=some (X,none,none))(hrun:∀o:Oper,o.op=X->(execOp a.eval o).run P w=.ok .skip w')(hg:G γ (l.setIfInBounds i true) w'):wpOp P ops Q i (pY ops val G γ l a i) a w:=by
 cases ho:ops[i]? with
 |none=>rw[ho] at hX;cases hX
 |some o =>
  rw[ho] at hX;simp only[Option.map_some,Option.some.injEq,Prod.mk.injEq] at hX;obtain⟨h1,h2,h3⟩:=hX;refine bU ho h2 ?_;unfold Oper.wp;rw[hrun o h1];exact⟨o,val γ i,γ,ho,by rw[h3];rfl,rfl,fun _ _=>rfl,hg⟩
end
end
end
section
open Go Go.RowKit Num
def bH.fine(k:bH):Bool:=decide ((k.nums.map Prod.fst).Nodup)&&k.nums.all (fun q=>!(q.2.1&&q.2.2))&&k.more.all (fun x=>decide (x<4∨9<x))
end
section
open Go Go.RowKit
theorem eB{P:Program}{ops:Array Oper}{rest:List Oper}{o:Oper}{a:Act}{w w':World}{Q:Exit->Act->World->Prop}{s:Nat}{v:Value}(hw:Region.wanted o (yielded ops a.tmps)=true)(hd:o.dst=some s)(hr:(execOp a.eval o).run P w=.ok (.value v) w')(h:wpList P ops Q rest (a.put (some s) v) w'):wpList P ops Q (o::rest) a w :=
 wpList_step fun K hK=>by
  rw[if_pos hw];unfold Oper.wp;rw[hr];rw[<-hd] at h;exact hK _ _ h
theorem jA{P:Program}{ops:Array Oper}{rest:List Oper}{o:Oper}{a:Act}{w:World}{Q:Exit->Act->World->Prop}{s:Nat}(hw:Region.wanted o (yielded ops a.tmps)=false)(hd:o.dst=some s)(h:wpList P ops Q rest (a.put (some s) undef) w):wpList P ops Q (o::rest) a w :=
 wpList_skip hw (by rw[hd];exact h)
structure uN(n:Nat)(p2 p3:Value)(s:Nat)(b:Bool)(a:Act):Prop where
 sz:a.tmps.size=n
 df:a.defers=[]
 t2:a.tmps[2]?=some p2
 t3:a.tmps[3]?=some p3
 tb:a.tmps[s]?=some (.bool b)
theorem uN.put{n:Nat}{p2 p3:Value}{s:Nat}{b:Bool}{a:Act}(h:uN n p2 p3 s b a){x:Nat}(v:Value)(h3:3<x)(hs:s<x):uN n p2 p3 s b (a.put (some x) v) :=
 ⟨by simpa[Act.put] using h.sz,h.df,(dY (by omega)).trans h.t2,(dY (by omega)).trans h.t3,(dY (by omega)).trans h.tb⟩
theorem fY{ops:Array Oper}{a:Act}{o:Oper}{j s:Nat}{b:Bool}(hg:o.guard=some (j,true))(hj:(ops[j]?).bind (·.dst)=some s)(hv:a.tmps[s]?=some (.bool b)):Region.wanted o (yielded ops a.tmps)=b:=by
 unfold Region.wanted yielded;rw[hg];simp only[hj,Option.bind_some,hv];cases b <;> rfl
theorem blk{P:Program}{ops:Array Oper}{rest:List Oper}{o1 o2 o3 o4 o5 o6 o7:Oper}{a:Act}{w:World}{Q:Exit->Act->World->Prop}{n:Nat}{p2 p3 q2 q3 x y:Value}{b e:Bool}{s j:Nat}(h:uN n p2 p3 s b a)
  (hj:(ops[j]?).bind (·.dst)=some s) (hn:s+6<n) (h3:3<=s)
  (g1:(o1.guard,o1.dst)=(some (j,true),some (s+1))) (g2:(o2.guard,o2.dst)=(some (j,true),some (s+2))) (g3:(o3.guard,o3.dst)=(some (j,true),some (s+3))) (g4:(o4.guard,o4.dst)=(some (j,true),some (s+4))) (g5:(o5.guard,o5.dst)=(some (j,true),some (s+5)))
  (g6:(o6.op,o6.guard,o6.dst)=(.pick (.tmp s) (.tmp (s+5)) (.const (.bool false)),none,some (s+6))) {d7:Nat}(g7:(o7.guard,o7.dst)=(none,some d7))
  (r1:∀a:Act,a.tmps[2]?=some p2->(execOp a.eval o1).run P w=.ok (.value q2) w) (r2:∀a:Act,a.tmps[s+1]?=some q2->(execOp a.eval o2).run P w=.ok (.value x) w)
  (r3:∀a:Act,a.tmps[3]?=some p3->(execOp a.eval o3).run P w=.ok (.value q3) w) (r4:∀a:Act,a.tmps[s+3]?=some q3->(execOp a.eval o4).run P w=.ok (.value y) w)
  {S:World->Prop}(hS:S w) (r5:∀(a:Act) (R:Act->World->Prop),a.tmps[s+2]?=some x->a.tmps[s+4]?=some y->(∀W,S W->R (a.put o5.dst (.bool e)) W)->o5.wp P a w R Q)
  (r7:∀(a:Act) (v:Value) (W:World),a.tmps[s+6]?=some v->(execOp a.eval o7).run P W=.ok (.value v) W)
  (K:∀(a6:Act) (W:World),S W->uN n p2 p3 s b a6->wpList P ops Q rest (a6.put (some d7) (.bool (b&&e))) W):wpList P ops Q (o1::o2::o3::o4::o5::o6::o7::rest) a w:=by
 simp only[Prod.mk.injEq] at g1 g2 g3 g4 g5 g6 g7;have fin:∀(a5:Act) (W:World),S W->uN n p2 p3 s b a5->(b=true->a5.tmps[s+5]?=some (.bool e))->wpList P ops Q (o6::o7::rest) a5 W:=fun a5 W hW h5 he=>by
  refine eB (w':=W) (v:=.bool (b&&e)) (by simp[Region.wanted,g6.2.1]) g6.2.2 ?_ ?_
  ·cases b with
   |true=>simp[execOp,g6.1,h5.tb,he rfl,go_sem]
   |false=>simp[execOp,g6.1,h5.tb,go_sem]
  ·have h6:=h5.put (x:=s+6) (.bool (b&&e)) (by omega) (by omega);have e6:(a5.put (some (s+6)) (.bool (b&&e))).tmps[s+6]?=some (.bool (b&&e)):=dE (by rw[h5.sz];omega);exact eB (w':=W) (v:=.bool (b&&e)) (by simp[Region.wanted,g7.1]) g7.2 (r7 _ _ W e6) (K _ W hW h6)
 cases b with
 |false =>
  have k1:=h.put (x:=s+1) undef (by omega) (by omega);have k2:=k1.put (x:=s+2) undef (by omega) (by omega);have k3:=k2.put (x:=s+3) undef (by omega) (by omega);have k4:=k3.put (x:=s+4) undef (by omega) (by omega);have k5:=k4.put (x:=s+5) undef (by omega) (by omega);exact jA (fY g1.1 hj h.tb) g1.2 (jA (fY g2.1 hj k1.tb) g2.2 (jA (fY g3.1 hj k2.tb) g3.2 (jA (fY g4.1 hj k3.tb) g4.2 (jA (fY g5.1 hj k4.tb) g5.2 (fin _ w hS k5 (fun h=>by cases h))))))
 |true =>
  have k1:=h.put (x:=s+1) q2 (by omega) (by omega);have e1:(a.put (some (s+1)) q2).tmps[s+1]?=some q2:=dE (by rw[h.sz];omega);have k2:=k1.put (x:=s+2) x (by omega) (by omega);have e2:((a.put (some (s+1)) q2).put (some (s+2)) x).tmps[s+2]?=some x:=dE (by rw[k1.sz];omega);have k3:=k2.put (x:=s+3) q3 (by omega) (by omega);have e3:(((a.put (some (s+1)) q2).put (some (s+2)) x).put (some (s+3)) q3).tmps[s+3]?=some q3:=dE (by rw[k2.sz];omega);have e2':=(dY (a:=(a.put (some (s+1)) q2).put (some (s+2)) x) (s:=s+3) (x:=s+2) (v:=q3) (by omega)).trans e2;have k4:=k3.put (x:=s+4) y (by omega) (by omega);have e4:((((a.put (some (s+1)) q2).put (some (s+2)) x).put (some (s+3)) q3).put (some (s+4)) y).tmps[s+4]?=some y:=dE (by rw[k3.sz];omega);have e2'':=(dY (a:=((a.put (some (s+1)) q2).put (some (s+2)) x).put (some (s+3)) q3) (s:=s+4) (x:=s+2) (v:=y) (by omega)).trans e2';have k5:=k4.put (x:=s+5) (.bool e) (by omega) (by omega);exact eB (fY g1.1 hj h.tb) g1.2 (r1 _ h.t2) (eB (fY g2.1 hj k1.tb) g2.2 (r2 _ e1) (eB (fY g3.1 hj k2.tb) g3.2 (r3 _ k2.t3) (eB (fY g4.1 hj k3.tb) g4.2 (r4 _ e3) (wpList_step fun R hR=>by
   rw[if_pos (fY g5.1 hj k4.tb)];refine r5 _ R e2'' e4 fun W hW=>hR _ _ ?_
   rw[g5.2];exact fin _ W hW k5 (fun _=>dE (by rw[k4.sz];omega))))))
end
section
open Go.RowKit Num Dt Go.ChangeShapes Go.WideShapes Go.ChangeAt
structure aF where
 f:aE
 pa:Option Addr
 pc:Nat
 oa:Option Addr
 oc:Nat
def aF.arr(x:aF):Array Value:=x.f.cells x.pa x.pc x.oa x.oc
def aF.cells(x:aF):List Value:=x.arr.toList
def bZ.fits(f:bZ):Prop:=f.n.length<=maxLen/\f.d.length<=maxLen
structure aF.fits(x:aF):Prop where
 picks:x.f.picks.length<=x.pc
 options:x.f.options.length<=x.oc
 npicks:x.f.picks.length<=maxLen
 noptions:x.f.options.length<=maxLen
 key:x.f.key.length<=maxLen
 ins:x.f.ins.length<=maxLen
 other:x.f.other.length<=maxLen
 cur:x.f.cur.length<=maxLen
 target:x.f.target.length<=maxLen
 q:x.f.q.length<=maxLen
 amt:x.f.amt.length<=maxLen
 fee:x.f.fee.length<=maxLen
 price:x.f.price.fits
 ratio:x.f.ratio.fits
 share:x.f.share.fits
 pick:∀p,p∈x.f.picks->p.lot.length<=maxLen/\p.q.length<=maxLen
 option:∀o,o∈x.f.options->o.other.length<=maxLen/\o.ratio.fits/\o.price.fits/\o.value.fits
 stamp:(Lit.int .i64 x.f.stamp).wf=true
 day:(Lit.int .i64 x.f.day).wf=true
 kind:(Lit.int .i64 x.f.kind).wf=true
 choice:(Lit.int .i64 x.f.choice).wf=true
def fS(w:World)(a:Option Addr)(xs:List aF):Prop:=gJ w a 21 (xs.map aF.cells)/\∀x,x∈xs->x.f.Behind w x.pa x.oa
theorem fS.below{w w':World}{a:Option Addr}{xs:List aF}(h:fS w a xs)(hb:Below w.heap.size w w'):fS w' a xs:=⟨h.1.below hb,fun x hx=>(h.2 x hx).below hb⟩
section
variable {H:Type}{enc:TypeId×Value->H}{P:Program}{w:World}{base:Nat}{sp:Nat->Bool}{held:Bool}
end
section
variable {H:Type}{enc:TypeId×Value->H}{w:World}{base:Nat}{held:Bool}
end
end
section
open Go Go.RowKit Num
structure aF.ok(x:aF):Prop where
 small:x.f.small
 cap:x.f.picks.length<=x.pc
end
section
open Go.RowKit Num
def sS(a b:List UInt8):Int:=if a<b then -1 else if b<a then 1 else 0
end
section
open Go Go.RowKit Num
def Xi(x y z:Int):Int:=if x≠0 then x else if y≠0 then y else z
end
section
open Go Go.RowKit Num
structure CC where
 W0:World
 b2:Nat
 b3:Nat
 d1:Int
 d2:Int
 k1:Int
 k2:Int
 s1:List UInt8
 s2:List UInt8
def CC.row(C:CC):Array Value:=#[.int .i64 (bG C.d1 C.d2),.int .i64 (bG C.k1 C.k2),.int .i64 (sS C.s1 C.s2)]
def CC.res(C:CC):Value:=.int .i64 (Xi (bG C.d1 C.d2) (bG C.k1 C.k2) (sS C.s1 C.s2))
def CC.val(C:CC)(_:Unit):Nat->Value
 |0=>.pointer (some ⟨C.b2,3,none⟩)
 |1=>.int .i64 C.d1
 |2=>.pointer (some ⟨C.b3,3,none⟩)
 |3=>.int .i64 C.d2
 |4=>.int .i64 (bG C.d1 C.d2)
 |5=>.int .i64 C.k1
 |6=>.int .i64 C.k2
 |7=>.int .i64 (bG C.k1 C.k2)
 |8=>.pointer (some ⟨C.b2,0,none⟩)
 |9=>.string ⟨C.s1.toArray⟩
 |10=>.pointer (some ⟨C.b3,0,none⟩)
 |11=>.string ⟨C.s2.toArray⟩
 |12=>.int .i64 (sS C.s1 C.s2)
 |13=>.slice (some ⟨C.W0.heap.size,0,none⟩) 3 3
 |14=>C.res
 |_=>C.res
def CC.g(C:CC)(_:Unit)(l:Array Bool)(W:World):Prop:=(¬ lP l 13/\W=C.W0)∨(lP l 13/\W=C.W0.alloc (.cells C.row 3))
section
variable {C:CC}{t0:Array Value}{Q:Exit->Act->World->Prop}{l:Array Bool}{w:World}
theorem CC.keep{i:Nat}(hi:i≠13)(h:C.g () l w):C.g () (l.setIfInBounds i true) w:=by
 rcases h with⟨h,e⟩|⟨h,e⟩
 ·exact .inl ⟨fun h'=>h (mQ h' (Ne.symm hi)),e⟩
 ·exact .inr ⟨fH h,e⟩
theorem CC.cell{b j:Nat}{v:Value}(hb:b<C.W0.heap.size)(hc:C.W0.cell? ⟨b,j,none⟩=some v)(h:C.g () l w):w.cell? ⟨b,j,none⟩=some v:=by
 rcases h with⟨_,rfl⟩|⟨_,rfl⟩
 ·exact hc
 ·exact((aB C.W0 _).cell (p:=⟨b,j,none⟩) hb).trans hc
end
end
section
open Go Go.RowKit Num Go.Maps
structure VC where
 W0:World
 b:Nat
 off:Nat
 n:Nat
 c:Nat
 b5:Nat
 k:Nat
 gb:Bool
 pc:Array Value
 fc:Array Value
 r:Int
 sl:Value
def VC.val(C:VC)(_:Unit):Nat->Value
 |0=>.int .i64 (C.k:Int)
 |1=>.bool C.gb
 |2=>.bool C.gb
 |3=>gv C.gb (C.sl)
 |4=>gv C.gb (.int .i64 (C.k:Int))
 |5=>gv C.gb (.int .i64 ((C.k:Int)-1))
 |6=>gv C.gb (.pointer (some ⟨C.b,C.off+(C.k-1)*21,none⟩))
 |7=>gv C.gb (.agg C.pc)
 |8=>gv C.gb (.agg C.fc)
 |9=>gv C.gb (.int .i64 C.r)
 |10=>gv C.gb (.bool (decide (0<=C.r)))
 |_=>.bool (C.gb&&decide (0<=C.r))
def VC.g(C:VC)(_:Unit)(_:Array Bool)(W:World):Prop:=Below C.W0.heap.size C.W0 W
section
variable {C:VC}{t0:Array Value}{Q:Exit->Act->World->Prop}
end
end
end Go.Proofs.YtiloklnjjfaagaaGreatDoor
