/- WashIns WashInsE WOpen -/
import Derived.Test.YtiloklnjjfaagaaGreatDoorVB
import Derived.Test.YtiloklnjjfaagaaGreatDoorVA
import Derived.Test.YtiloklnjjfaagaaGreatDoorUWashB
import Derived.Lib.AppendZerosOnto
import Derived.Lib.Overlaps
set_option maxHeartbeats 16000000
set_option maxRecDepth 100000
namespace Go.Proofs.YtiloklnjjfaagaaGreatDoor
open Go.Proofs.Tryz
section
open Go Go.RowKit Go.Lib Num
theorem dDr{P:Program}(w:World){ops:Array Oper}{rest:List Oper}{o:Oper}{a:Act}{Q:Exit->Act->World->Prop}(hgd:o.guard=none)(d s:Operand)(t t':TypeId)
  (ho:o.op=.call { callee:=.builtin .copy,args:=#[d,s],argTypes:=#[t,t'] }) (v u:Value) (hd:a.eval d=v) (hs:a.eval s=u) {v':Value}{w':World}
  (hr:(Builtin.copy_ #[t,t'] o.type #[v,u]).run P w=.ok v' w') (h:wpList P ops Q rest (a.put o.dst v') w'):wpList P ops Q (o::rest) a w :=
 wpList_plain hgd fun _ hK=>by
  unfold Oper.wp execOp;simp only[ho,resolve,invoke,builtin,Sem.run_bind,Sem.run_pure,Result.andThen_ok,List.map_toArray,List.map_cons,List.map_nil,hd,hs,hr];exact hK _ _ h
theorem dEo{P:Program}{ops:Array Oper}{o:Oper}{a:Act}{w:World}{K:Act->World->Prop}{Q:Exit->Act->World->Prop}{E:Prop}
  (hg:o.guard=none) (d x:Operand) (tyD tyS:TypeId) (hop:o.op=Op.call { callee:=Callee.builtin Builtin.copy,args:=#[d,x],argTypes:=#[tyD,tyS] })
  (v u:Value) (hd:a.eval d=v) (hx:a.eval x=u) {v':Value}{w':World}(hr:(Builtin.copy_ #[tyD,tyS] o.type #[v,u]).run P w=.ok v' w') (hK:K (a.put o.dst v') w') :
  if Region.wanted o (yielded ops a.tmps)=true then Oper.wp P o a w K Q else E:=by
 have hw:Region.wanted o (yielded ops a.tmps)=true:=by simp[Region.wanted,hg]
 rw[if_pos hw];unfold Oper.wp;simp[execOp,hop,resolve,invoke,builtin,hd,hx,hr,Result.andThen];exact hK
theorem dDm{P:Program}(w:World)(tyD tyS ty elem:TypeId)(size:Nat)(b o dLen dCap:Nat)(a:Addr)(sLen sCap:Nat)(cs:List Value)
  (hu:P.underlying tyD=some (.slice elem)) (hs:(P.info? elem).map (·.size)=some size) (hn:cs.length=Nat.min sLen dLen*size)
  (hsrc:∀j v,cs[j]?=some v->w.cell? (a.add j)=some v) (ht:w.there b o cs.length) (h1:∀v∈cs,v.oneCell'=true) :
  (Builtin.copy_ #[tyD,tyS] ty #[.slice (some ⟨b,o,none⟩) dLen dCap,.slice (some a) sLen sCap]).run P w=.ok (goInt (Nat.min sLen dLen)) (w.setCells b o cs):=by
 have hl:=run_loadCells_list (P:=P) w a cs hsrc;have hst:=run_storeCells_cells (P:=P) b o cs 0 w (fun j hj=>by simpa using(ht j hj).1) (fun j hj=>by simpa using(ht j hj).2) h1;cases hq:P.info? elem with
 |none=>simp[hq] at hs
 |some i =>
  have hi:i.size=size:=by simpa[hq] using hs
  simp[Builtin.copy_,run_underlying hu,Builtin.lenOf,Builtin.firstCells,sizeOf,typeInfo,hq,hi,<-hn,hl,hst]
theorem dGo(b off n c i vb:Nat)(f:Nat->Value)(cs vs:List Value)(w:World)(hi:i<n)(hroom:n+1<=c)(hc63:c<=9223372036854775807)(hvb:vb≠b)(h0:off=0)
  (hcl:cs.length=n*7) (hvl:vs.length=7) (hrow:w.rowIs b 49 (c*7) f) (hcs:∀j v,cs[j]?=some v->f j=v)
  (hvs:w.heap[vb]?=some (.cells vs.toArray 49 (0,0))) (h1c:∀v∈cs,v.oneCell'=true) (h1v:∀v∈vs,v.oneCell'=true) :
  Calls prog 141 #[.slice (some ⟨b,off,none⟩) n c,.int .i64 i,.slice (some ⟨vb,0,none⟩) 1 1] w fun e w' =>
   e=.returned (.slice (some ⟨b,off,none⟩) (n+1) c)/\w'=(w.drew.setCells b (off+(i+1)*7) (cs.drop (i*7))).setCells b (off+i*7) vs:=by
 have hcell:∀j v,cs[j]?=some v->w.cell? ⟨b,off+j,none⟩=some v:=fun j v hv=>by
  have hj:=(Li.1 hv).1;rw[h0,Nat.zero_add,hrow.cell (by omega),hcs j v hv]
 have hth:∀o m,o+m<=c*7->w.there b o m:=fun o m hm j hj=>⟨by rw[hrow.cell (by omega)];rfl,hrow.frozen _⟩
 have hvc:∀j v,vs[j]?=some v->w.cell? ⟨vb,0+j,none⟩=some v:=fun j v hv=>by
  rw[Nat.zero_add,aS hvs j,<-hv,<-Array.getElem?_toList]
 have hsb:w.shape? b=some (49,c*7):=by
  obtain⟨cur,h1,h2,_⟩:=hrow;unfold World.shape?;rw[h1];simp[h2]
 have hsa:w.shape? vb=some (49,7):=by
  unfold World.shape?;rw[hvs];simp[hvl]
 have hov:∀lb cb,(callFunc 176 #[.slice (some ⟨vb,0,none⟩) 1 1,.slice (some ⟨b,off+(i+1)*7,none⟩) lb cb]).run prog w=.ok (.value (.bool false)) w:=fun lb cb=>by
  rw[run_callFunc_extern func176 (by kernel_rfl) (by kernel_rfl) (by kernel_rfl) (e:=Extern.SlicesOverlaps.overlaps #[22,22] #[4]) (by kernel_rfl),
   Lib.run_overlaps_apart w 22 4 49 underlying22 7 (fun _=>by kernel_rfl) ⟨vb,0,none⟩ ⟨b,off+(i+1)*7,none⟩ 1 1 lb cb hvb 49 49 7 (c*7) hsa hsb (by omega) (aR hvs 0) (aR hvs 7)]
  rfl
 have hz2:¬ ((i:Int)=(n:Int)):=by omega
 have hz3:¬ ((c:Int)<(n:Int)+1):=by omega
 have hdl:(cs.drop (i*7)).length=(n-i)*7:=by rw[List.length_drop,hcl,Nat.sub_mul]
 have hsz:(prog.info? 49).map (·.size)=some 7:=by kernel_rfl
 have hw1:IntKind.i64.wrap ((i:Int)+1)=(i:Int)+1:=by rw[IntKind.wrap_i64];omega
 have hb1:(0:Int)<=(i:Int)+1:=by omega
 have hin:i<=n:=by omega
 have htn:((i:Int)+1).toNat=i+1:=by omega
 have hb2:¬ (c=i+1):=by omega
 have hb3:(i:Int)<=(n:Int)+1:=by omega
 have hb4:¬ (c=i):=by omega
 have hcp1:∀ty dc sc,(Builtin.copy_ #[22,22] ty #[.slice (some ⟨b,off+(i+1)*7,none⟩) (n-i) dc,.slice (some ⟨b,off+i*7,none⟩) (n+1-i) sc]).run prog w.drew=.ok (goInt (Nat.min (n+1-i) (n-i))) (w.drew.setCells b (off+(i+1)*7) (cs.drop (i*7))):=fun ty dc sc =>
  dDm w.drew _ _ ty 49 7 b (off+(i+1)*7) (n-i) dc ⟨b,off+i*7,none⟩ (n+1-i) sc (cs.drop (i*7)) underlying22 hsz (by rw[hdl];congr 1;simp only[Nat.min_def];split <;> omega)
   (fun j v hj=>by rw[Addr.add_lit,Nat.add_assoc];exact hcell (i*7+j) v (by rwa [List.getElem?_drop] at hj))
   (hth _ _ (by rw[hdl,h0];omega)) (fun v hv=>h1c v (List.mem_of_mem_drop hv))
 obtain⟨W1,hW1⟩:∃W1,W1=w.drew.setCells b (off+(i+1)*7) (cs.drop (i*7)):=⟨_,rfl⟩
 have hcp2:∀(W:World),(∀x,W.cell? x=W1.cell? x)->(∀x,W.frozen? x=W1.frozen? x)->∀ty dc,(Builtin.copy_ #[22,22] ty #[.slice (some ⟨b,off+i*7,none⟩) (n+1-i) dc,.slice (some ⟨vb,0,none⟩) 1 1]).run prog W=.ok (goInt (Nat.min 1 (n+1-i))) (W.setCells b (off+i*7) vs):=fun W hWc hWf ty dc =>
  dDm W _ _ ty 49 7 b (off+i*7) (n+1-i) dc ⟨vb,0,none⟩ 1 1 vs underlying22 hsz (by rw[hvl];simp only[Nat.min_def];split <;> omega)
   (fun j v hj=>by
    rw[Addr.add_lit,hWc,hW1,World.cell?_setCells_out b _ _ _ _ (fun h _=>absurd h hvb)];exact hvc j v hj)
   (fun j hj=>by
    have h:=World.there_setCells (w:=w.drew) (hth (off+i*7) 7 (by rw[h0];omega)) b (off+(i+1)*7) (cs.drop (i*7)) j (by omega);rw[hWc,hWf,hW1];exact h) h1v
 rw[<-hW1] at hcp1;clear hcell hth hvc hsb hsa hrow hcs hvs h1c h1v hcl hvl hdl;have mixed:prog.follows .mixedOrders=true:=by kernel_rfl
 clear h0;go_enter func141,ntmps141;go_wp2_with (simp only[hov]);go_region_law_o (refine dEo rfl _ _ 22 22 rfl _ _ (by simp[Act.eval,Act.put]) (by simp[Act.eval,Act.put]) (hcp1 _ _ _) ?_);go_wp2_with (at_builtin;refine dDr _ rfl _ _ 22 22 rfl _ _ rfl rfl (hcp2 _ (fun _=>rfl) (fun _=>rfl) _ _) ?_);go_ret
 first|exact⟨rfl,rfl⟩|exact⟨rfl,by rw[hW1]⟩
theorem dG3(b off n c i vb:Nat)(f:Nat->Value)(cs vs:List Value)(w:World)(hi:i<n)(hnc:n<=c)(hroom:c<n+1)(hn1000:n<=1000)(hvb:vb<w.heap.size)(h0:off=0)
  (hcl:cs.length=n*7) (hvl:vs.length=7) (hrow:w.rowIs b 49 (c*7) f) (hcs:∀j v,cs[j]?=some v->f j=v)
  (hvs:w.heap[vb]?=some (.cells vs.toArray 49 (0,0))) (h1c:∀v∈cs,v.oneCell'=true) (h1v:∀v∈vs,v.oneCell'=true) :
  Calls prog 141 #[.slice (some ⟨b,off,none⟩) n c,.int .i64 i,.slice (some ⟨vb,0,none⟩) 1 1] w fun e w'=>∃G,n+1<=G/\G<=9223372036854775807 /\
   e=.returned (.slice (some ⟨w.heap.size,0,none⟩) (n+1) G) /\
   w'=(((w.alloc (.cells ((cs.take (i*7)).toArray++Builtin.zeroCells dFa.cells (n+1-i)++Builtin.zeroCells dFa.cells (G-(n+1))) 49)).drew.setCells w.heap.size (i*7) vs).drew).setCells w.heap.size ((i+1)*7) (cs.drop (i*7)):=by
 obtain⟨i0,hi0,hz0,hzs,hzb⟩:=info_parts dF8;have hcell:∀j v,cs[j]?=some v->w.cell? ⟨b,off+j,none⟩=some v:=fun j v hv=>by
  have hj:=(Li.1 hv).1;rw[h0,Nat.zero_add,hrow.cell (by omega),hcs j v hv]
 have hbw:=hrow.lt;have hvc:∀j v,vs[j]?=some v->w.cell? ⟨vb,0+j,none⟩=some v:=fun j v hv=>by
  rw[Nat.zero_add,aS hvs j,<-hv,<-Array.getElem?_toList]
 have hsz:(prog.info? 49).map (·.size)=some 7:=by kernel_rfl
 have hz2:¬ ((i:Int)=(n:Int)):=by omega
 have hz3:(c:Int)<(n:Int)+1:=by omega
 have hkk:(n:Int)+1-(i:Int)=((n+1-i:Nat):Int):=by omega
 have hik:i+(n+1-i)=n+1:=by omega
 have hold:(Builtin.firstCells i0.size i (.slice (some ⟨b,off,none⟩) i c)).run prog w.drew=.ok (cs.take (i*7)).toArray w.drew:=by
  rw[hzs];exact run_firstCells_some w.drew 7 i ⟨b,off,none⟩ i c (cs.take (i*7)) (by rw[List.length_take,hcl];exact Nat.min_eq_left (Nat.mul_le_mul_right 7 (by omega))) (fun j v hj=>by
   rw[Addr.add_lit];rw[List.getElem?_take] at hj;split at hj
   ·exact hcell j v hj
   ·cases hj)
 have hrz:∀ty,(Builtin.append_ #[22,3] ty #[.slice (some ⟨b,off,none⟩) i c,.int .i64 ((n:Int)+1-(i:Int))]).run prog w =
   .ok (.slice (some ⟨w.heap.size,0,none⟩) (n+1) (grownCap w (n+1) c 49)) (w.drew.alloc (.cells ((cs.take (i*7)).toArray++Builtin.zeroCells dFa.cells (n+1-i)++Builtin.zeroCells dFa.cells (grownCap w (n+1) c 49-(n+1))) 49)):=fun ty=>by
  have h:=Lib.run_append_grow_zeros w 22 3 ty 49 i0 _ .i64 .i64 underlying22 underlying3 hi0 hz0 (some ⟨b,off,none⟩) i c (cs.take (i*7)) hold (n+1-i) (by omega) (by omega) (by omega) (by omega) (by rw[hzb];omega) (by rw[hzb,hik];exact growslice_fits (by omega) (by omega));rw[hik] at h;rw[hkk];exact h
 obtain⟨G,hG⟩:∃G,G=grownCap w (n+1) c 49:=⟨_,rfl⟩
 obtain⟨ROW,hROW⟩:∃ROW:Array Value,ROW=(cs.take (i*7)).toArray++Builtin.zeroCells dFa.cells (n+1-i)++Builtin.zeroCells dFa.cells (G-(n+1)):=⟨_,rfl⟩
 have hGn:n+1<=G:=by rw[hG];exact grownCap_ge w _ _ _
 have hG63:G<=9223372036854775807:=by
  have:=grownCap_le_maxLen w (n+1) c 49 (by unfold maxLen;omega);rw[<-hG] at this;unfold maxLen at this;omega
 rw[<-hG] at hrz;rw[<-hROW] at hrz;have hRl:(n+1)*7<=ROW.size:=by
  have e7:dFa.cells.size=7:=rfl;rw[hROW];simp only[Builtin.zeroCells,Array.size_append,Array.size_map,Array.size_range,e7,List.size_toArray,List.length_take,hcl];have:min (i*7) (n*7)=i*7:=Nat.min_eq_left (Nat.mul_le_mul_right 7 (by omega));rw[this,Nat.sub_mul];omega
 obtain⟨W1,hW1⟩:∃W1,W1=w.drew.alloc (.cells ROW 49):=⟨_,rfl⟩
 rw[<-hW1] at hrz;have hN:∀o m,o+m<=(n+1)*7->W1.there w.heap.size o m:=fun o m hm j hj=>⟨by
  rw[hW1,World.cell?_alloc_at (w:=w.drew) ROW _ w.heap.size (o+j) rfl,Array.getElem?_eq_getElem (by omega)];rfl,by
  rw[hW1];exact World.frozen?_alloc_at (w:=w.drew) ROW _ w.heap.size (o+j) rfl⟩
 have hOb:∀j v,w.cell? ⟨b,j,none⟩=some v->W1.cell? ⟨b,j,none⟩=some v:=fun j v h=>by rw[hW1,World.cell?_alloc_past (w:=w.drew) _ b j hbw];exact h
 have hOv:∀j v,w.cell? ⟨vb,j,none⟩=some v->W1.cell? ⟨vb,j,none⟩=some v:=fun j v h=>by rw[hW1,World.cell?_alloc_past (w:=w.drew) _ vb j hvb];exact h
 have hcpA:∀(W:World),(∀x,W.cell? x=W1.cell? x)->(∀x,W.frozen? x=W1.frozen? x)->∀ty dc,(Builtin.copy_ #[22,22] ty #[.slice (some ⟨w.heap.size,i*7,none⟩) (n+1-i) dc,.slice (some ⟨vb,0,none⟩) 1 1]).run prog W=.ok (goInt (Nat.min 1 (n+1-i))) (W.setCells w.heap.size (i*7) vs):=fun W hWc hWf ty dc =>
  dDm W _ _ ty 49 7 w.heap.size (i*7) (n+1-i) dc ⟨vb,0,none⟩ 1 1 vs underlying22 hsz (by rw[hvl];simp only[Nat.min_def];split <;> omega)
   (fun j v hj=>by rw[Addr.add_lit,hWc];exact hOv _ v (hvc j v hj))
   (fun j hj=>by rw[hWc,hWf];exact hN (i*7) 7 (by omega) j (by omega)) h1v
 have hGi:¬ (G=i):=by omega
 have hGim:¬ (G=i+1):=by omega
 have hci:¬ (c=i):=by omega
 have hbN:b≠w.heap.size:=by omega
 have hdl:(cs.drop (i*7)).length=(n-i)*7:=by rw[List.length_drop,hcl,Nat.sub_mul]
 have hcpB:∀(W:World),(∀x,W.cell? x=(W1.setCells w.heap.size (i*7) vs).cell? x)->(∀x,W.frozen? x=(W1.setCells w.heap.size (i*7) vs).frozen? x)->∀ty dc sc,(Builtin.copy_ #[22,22] ty #[.slice (some ⟨w.heap.size,(i+1)*7,none⟩) (n-i) dc,.slice (some ⟨b,off+i*7,none⟩) (n-i) sc]).run prog W=.ok (goInt (Nat.min (n-i) (n-i))) (W.setCells w.heap.size ((i+1)*7) (cs.drop (i*7))):=fun W hWc hWf ty dc sc =>
  dDm W _ _ ty 49 7 w.heap.size ((i+1)*7) (n-i) dc ⟨b,off+i*7,none⟩ (n-i) sc (cs.drop (i*7)) underlying22 hsz (by rw[hdl];congr 1;simp only[Nat.min_def];split <;> omega)
   (fun j v hj=>by
    rw[Addr.add_lit,hWc,World.cell?_setCells_out _ _ _ _ _ (fun h _=>absurd h hbN),Nat.add_assoc];exact hOb _ v (hcell (i*7+j) v (by rwa [List.getElem?_drop] at hj)))
   (fun j hj=>by
    rw[hWc,hWf];exact World.there_setCells (hN ((i+1)*7) ((n-i)*7) (by omega)) w.heap.size (i*7) vs j (by omega)) (fun v hv=>h1c v (List.mem_of_mem_drop hv))
 subst hW1;have hE1:∀x,((w.alloc (.cells ROW 49)).drew).cell? x=(w.drew.alloc (.cells ROW 49)).cell? x:=fun x=>rfl
 have hE2:∀x,((w.alloc (.cells ROW 49)).drew).frozen? x=(w.drew.alloc (.cells ROW 49)).frozen? x:=fun x=>rfl
 have hF1:∀x,(((w.alloc (.cells ROW 49)).drew.setCells w.heap.size (i*7) vs).drew).cell? x=((w.drew.alloc (.cells ROW 49)).setCells w.heap.size (i*7) vs).cell? x:=fun x=>rfl
 have hF2:∀x,(((w.alloc (.cells ROW 49)).drew.setCells w.heap.size (i*7) vs).drew).frozen? x=((w.drew.alloc (.cells ROW 49)).setCells w.heap.size (i*7) vs).frozen? x:=fun x=>rfl
 have hw1:IntKind.i64.wrap ((i:Int)+1)=(i:Int)+1:=by rw[IntKind.wrap_i64];omega
 have hb1:(0:Int)<=(i:Int)+1:=by omega
 have hin:i<=n:=by omega
 have htn:((i:Int)+1).toNat=i+1:=by omega
 have hb3:(i:Int)<=(n:Int):=by omega
 have HROW:=Hd hROW;clear hROW hkk hik hold hG hRl hcell hvc hN hOb hOv hrow hcs hvs h1c h1v hcl hvl hdl hbN;have mixed:prog.follows .mixedOrders=true:=by kernel_rfl
 clear h0;go_enter func141,ntmps141;go_wp2_with (first|(at_builtin;refine Lib.wpList_append_run _ rfl _ _ _ _ rfl _ _ rfl rfl _ _ (hrz _) ?_)|(at_builtin;refine dDr _ rfl _ _ 22 22 rfl _ _ rfl rfl (hcpA _ hE1 hE2 _ _) ?_)|(at_builtin;refine dDr _ rfl _ _ 22 22 rfl _ _ rfl rfl (hcpB _ (fun _=>rfl) (fun _=>rfl) _ _ _) ?_));go_region_law_o (refine dEo rfl _ _ 22 22 rfl (.slice (some ⟨w.heap.size,(i+1)*7,none⟩) (n-i) (G-(i+1))) (.slice (some ⟨b,off+i*7,none⟩) (n-i) (c-i)) (by simp[Act.eval,Act.put]) (by simp[Act.eval,Act.put]) (hcpB _ hF1 hF2 3 (G-(i+1)) (c-i)) ?_);go_wp2;go_ret;exact⟨G,hGn,hG63,rfl,by rw[HROW.out]⟩
end
section
open Go Go.RowKit Go.Lib Num
def dCw(ls:List Bd):List Value:=dAf Bd.cs ls
theorem dEh(xs:List Bd):(dCw xs).length=xs.length*7:=dCx dDe xs
theorem dH0(xs:List Bd)(k:Nat):(dCw xs).take (k*7)=dCw (xs.take k):=dE0 dDe xs k
theorem dH1(xs:List Bd)(k:Nat):(dCw xs).drop (k*7)=dCw (xs.drop k):=dE1 dDe xs k
theorem dFn(a b:List Bd):dCw (a++b)=dCw a++dCw b:=dDd a b
theorem dIn(x:Bd):dCw [x]=x.cs.toList:=dFg x
theorem dE7{xs:List Bd}{u:Value}(h:u∈dCw xs):u.oneCell'=true:=by
 unfold dCw dAf at h;obtain⟨x,_,hx⟩:=List.mem_flatMap.1 h;have:=dF6 x;rw[<-Array.all_toList,List.all_eq_true] at this;exact this u hx
def dD3(ls:List Bd)(i:Nat)(x:Bd):List Bd:=ls.take i++x::ls.drop i
theorem dEf(l:List Bd)(i:Nat)(x:Bd):(dD3 l i x).length=l.length+1:=by
 unfold dD3;rw[List.length_append,List.length_cons,List.length_take,List.length_drop];omega
def dEc(w:World)(g cap:Nat)(f:Nat->Value)(xs:List Bd):Prop:=w.rowIs g 49 (cap*7) f/\xs.length<=cap/\∀j u,(dCw xs)[j]?=some u->f j=u
theorem dHy{w:World}{base:Nat}{v:Value}{xs:List Bd}(h:w.ownsRow base 49 7 v xs.length (dCw xs)):
  (v=.slice none 0 0/\xs=[])∨∃g cap f,v=.slice (some ⟨g,0,none⟩) xs.length cap/\base<=g/\cap<=maxLen/\dEc w g cap f xs:=by
 by_cases h0:xs=[]
 ·subst h0;obtain⟨_,⟨h1,_⟩|⟨g,cap,cur,h1,h2,h3,h4,h5,h6,h7⟩⟩:=h
  ·exact .inl ⟨h1,rfl⟩
  ·exact .inr ⟨g,cap,fun j=>cur.getD j default,h1,h2,h5,⟨cur,h3,h6,fun i hi=>by
    show cur[i]?=some (cur.getD i default);rw[Array.getD_eq_getD_getElem?,Array.getElem?_eq_getElem (by omega)];rfl⟩,Nat.zero_le _,fun j u hu=>by cases hu⟩
 ·obtain⟨g,cap,f,h1,h2,h3,h4,h5,h6⟩:=dDk h (List.length_pos_iff.2 h0);exact .inr ⟨g,cap,f,h1,h2,h4,h5,h3,h6⟩
theorem dEc.owns{w:World}{g cap base:Nat}{f:Nat->Value}{xs:List Bd}(h:dEc w g cap f xs)(hb:base<=g)(hc:cap<=maxLen):w.ownsRow base 49 7 (.slice (some ⟨g,0,none⟩) xs.length cap) xs.length (dCw xs) :=
 dE3 hb h.2.1 hc h.1 (dEh xs) h.2.2
theorem dEc.put{w:World}{g cap:Nat}{f:Nat->Value}{n:Nat}(h:w.rowIs g 49 (cap*7) f)(vs:List Value):(w.setCells g n vs).rowIs g 49 (cap*7) (fun j=>if n<=j/\j<n+vs.length then vs[j-n]?.getD default else f j) :=
 rowIs_setCells vs n w f h
theorem dF4(xs:List Bd)(i:Nat)(x:Bd):dCw (dD3 xs i x)=dCw (xs.take i)++(x.cs.toList++dCw (xs.drop i)):=by
 unfold dD3;rw[dFn,show x::xs.drop i=[x]++xs.drop i from rfl,dFn,dIn]
theorem aHk{xs:List Bd}{i:Nat}{x:Bd}{f:Nat->Value}(hi:i<=xs.length)(hf:∀j u,j<i*7->(dCw xs)[j]?=some u->f j=u){k:Nat}{u:Value}(hu:(dCw (dD3 xs i x))[k]?=some u):
  (if i*7<=k/\k<i*7+x.cs.toList.length then x.cs.toList[k-i*7]?.getD default else if(i+1)*7<=k/\k<(i+1)*7+((dCw xs).drop (i*7)).length then((dCw xs).drop (i*7))[k-(i+1)*7]?.getD default else f k)=u:=by
 have e7:x.cs.toList.length=7:=rfl;have hlt:=dEh (xs.take i);rw[List.length_take,Nat.min_eq_left hi] at hlt;rw[dF4] at hu
 by_cases h1:k<i*7
 ·rw[if_neg (by omega),if_neg (by omega)];rw[List.getElem?_append_left (by omega),<-dH0,List.getElem?_take,if_pos h1] at hu;exact hf k u h1 hu
 ·rw[List.getElem?_append_right (by omega),hlt] at hu
  by_cases h2:k<i*7+7
  ·rw[if_pos (by omega)];rw[List.getElem?_append_left (by omega)] at hu;rw[hu];rfl
  ·rw[List.getElem?_append_right (by omega),e7,<-dH1,show k-i*7-7=k-(i+1)*7 by omega] at hu;have:=(Li.1 hu).1;rw[if_neg (by omega),if_pos (by omega),hu];rfl
theorem dHm(v:Value)(n vb base:Nat)(cs vs:List Value)(w:World)(hn:n<=1000)(hown:w.ownsRow base 49 7 v n cs)(hbase:base<=w.heap.size)(hvl:vs.length=7)
  (hvs:w.heap[vb]?=some (.cells vs.toArray 49 (0,0))) (h1v:∀v∈vs,v.oneCell'=true) :
  Calls prog 141 #[v,.int .i64 n,.slice (some ⟨vb,0,none⟩) 1 1] w fun e w'=>(∃v',e=.returned v'/\w'.ownsRow base 49 7 v' (n+1) (cs++vs))/\Below base w w':=by
 obtain⟨i0,hi,hz0,hz1,hz2⟩:=info_parts dF8;have HW:=Hd hown;have HL:=Hd hvl;have HV:Hid (∀j u,vs[j]?=some u->w.cell? ((⟨vb,0,none⟩:Addr).add j)=some u):=fun j u hu=>by
  rw[Addr.add_lit,Nat.zero_add,aS hvs j,<-hu,<-Array.getElem?_toList]
 have H1:=Hd h1v;have HLT:=Hd hown.lt;have hv:v=.slice none 0 0/\n=0∨∃g cap,v=.slice (some ⟨g,0,none⟩) n cap/\n<=cap:=by
  obtain⟨_,h|⟨g,cap,cur,h1,_,_,h4,_⟩⟩:=hown
  ·exact .inl h
  ·exact .inr ⟨g,cap,h1,h4⟩
 clear hown hvl hvs h1v;rcases hv with⟨rfl,rfl⟩|⟨g,cap,rfl,hnc⟩
 ·go_enter func141,ntmps141;go_wp2_with (at_builtin;refine wpList_append_own_at _ rfl _ _ 22 rfl base 49 i0 dFa 7 96 underlying22 hi hz0 hz1 hz2 rfl (by decide) _ _ _ rfl HW.out ⟨vb,0,none⟩ 1 1 vs rfl HL.out HV.out H1.out (by unfold maxLen;omega) (by omega) hbase ?_);intro v' w3 hown' hgrow _ _;have HO:=Hd hown';have HB:=Hd ((Br _ w).grown hgrow hbase (fun k hk=>(HLT.out k hk).1));clear hown' hgrow;go_wp2;go_ret;exact⟨⟨_,rfl,HO.out⟩,HB.out⟩
 ·go_enter func141,ntmps141;go_wp2_with (at_builtin;refine wpList_append_own_at _ rfl _ _ 22 rfl base 49 i0 dFa 7 96 underlying22 hi hz0 hz1 hz2 rfl (by decide) _ _ _ rfl HW.out ⟨vb,0,none⟩ 1 1 vs rfl HL.out HV.out H1.out (by unfold maxLen;omega) (by omega) hbase ?_)
  all_goals
   intro v' w3 hown' hgrow _ _;have HO:=Hd hown';have HB:=Hd ((Br _ w).grown hgrow hbase (fun k hk=>(HLT.out k hk).1));clear hown' hgrow;go_wp2;go_ret;exact⟨⟨_,rfl,HO.out⟩,HB.out⟩
theorem dHn(xs:List Bd)(v:Value)(x:Bd)(i vb base:Nat)(w:World)(hn:xs.length<=1000)(hi:i<=xs.length)(hown:w.ownsRow base 49 7 v xs.length (dCw xs))(hbase:base<=w.heap.size)(hvs:aP w vb x.cs 49)(hvo:v.ownBlock≠some vb):
  Calls prog 141 #[v,.int .i64 i,.slice (some ⟨vb,0,none⟩) 1 1] w fun e w'=>(∃v',e=.returned v'/\w'.ownsRow base 49 7 v' (dD3 xs i x).length (dCw (dD3 xs i x)))/\Below base w w':=by
 have h1v:∀u,u∈x.cs.toList->u.oneCell'=true:=fun u hu=>by
  have:=dF6 x;rw[<-Array.all_toList,List.all_eq_true] at this;exact this u hu
 have hva:x.cs.toList.toArray=x.cs:=rfl;rw[dEf]
 by_cases he:i=xs.length
 ·subst he;have e:dCw (dD3 xs xs.length x)=dCw xs++x.cs.toList:=by rw[dF4,List.take_length,List.drop_length];simp[dCw,dAf]
  rw[e];exact dHm v xs.length vb base _ _ w hn hown hbase rfl hvs.2 h1v
 ·rcases dHy hown with⟨_,h⟩|⟨g,cap,f,rfl,hg,hm,hr⟩
  ·rw[h] at hi he;simp at hi he;omega
  ·have hgv:vb≠g:=fun e=>hvo (by rw[e];rfl)
   have hm':cap<=9223372036854775807:=by unfold maxLen at hm;omega
   have hgw:=hr.1.lt
   by_cases hroom:xs.length+1<=cap
   ·refine(dGo g 0 xs.length cap i vb f (dCw xs) x.cs.toList w (by omega) hroom hm' hgv rfl (dEh xs) rfl hr.1 hr.2.2 hvs.2 (fun u hu=>dE7 hu) h1v).mono ?_;rintro e w' ⟨rfl,rfl⟩;rw[Nat.zero_add,Nat.zero_add];have h1:=dEc.put (dEc.put (w:=w.drew) hr.1 (n:=(i+1)*7) ((dCw xs).drop (i*7))) (n:=i*7) x.cs.toList;refine⟨⟨_,rfl,?_⟩,below_setCells hg _ _ _ (below_setCells hg _ _ _ (aD (Br _ w) 1))⟩;have h2:dEc _ g cap _ (dD3 xs i x):=⟨h1,by rw[dEf];exact hroom,fun k u hu=>aHk (by omega) (fun j u _ hu=>hr.2.2 j u hu) hu⟩
    have h3:=h2.owns hg hm;rw[dEf] at h3;exact h3
   ·refine(dG3 g 0 xs.length cap i vb f (dCw xs) x.cs.toList w (by omega) hr.2.1 (by omega) hn hvs.1 rfl (dEh xs) rfl hr.1 hr.2.2 hvs.2 (fun u hu=>dE7 hu) h1v).mono ?_;rintro e w' ⟨G,hG1,hG2,rfl,rfl⟩;obtain⟨ROW,hROW⟩:∃ROW:Array Value,ROW=((dCw xs).take (i*7)).toArray++Builtin.zeroCells dFa.cells (xs.length+1-i)++Builtin.zeroCells dFa.cells (G-(xs.length+1)):=⟨_,rfl⟩
    rw[<-hROW];have e7:dFa.cells.size=7:=rfl;have hlt:((dCw xs).take (i*7)).length=i*7:=by rw[List.length_take,dEh];exact Nat.min_eq_left (Nat.mul_le_mul_right 7 hi)
    have hsz:ROW.size=G*7:=by
     rw[hROW];simp only[Builtin.zeroCells,Array.size_append,Array.size_map,Array.size_range,e7,List.size_toArray,hlt,Nat.sub_mul];omega
    have h0:=World.rowIs_alloc w ROW 49 (fun j=>ROW.getD j default) (fun j hj=>by rw[Array.getD_eq_getD_getElem?,Array.getElem?_eq_getElem hj];rfl);rw[hsz] at h0;have h1:=dEc.put (dEc.put (w:=(w.alloc (.cells ROW 49)).drew) h0 (n:=i*7) x.cs.toList).drew (n:=(i+1)*7) ((dCw xs).drop (i*7));have hbN:Below base w (w.alloc (.cells ROW 49)).drew:=aD ((Br _ w).alloc hbase _) 1;refine⟨⟨_,rfl,?_⟩,below_setCells hbase _ _ _ (aD (below_setCells hbase _ _ _ hbN) 1)⟩;have h2:dEc _ w.heap.size G _ (dD3 xs i x):=⟨h1.congr (g:=fun k=>if i*7<=k/\k<i*7+x.cs.toList.length then x.cs.toList[k-i*7]?.getD default else if(i+1)*7<=k/\k<(i+1)*7+((dCw xs).drop (i*7)).length then((dCw xs).drop (i*7))[k-(i+1)*7]?.getD default else ROW.getD k default) (fun k _=>by
     have e:x.cs.toList.length=7:=rfl;show (if _ then _ else if _ then _ else _)=_
     by_cases h1:i*7<=k/\k<i*7+x.cs.toList.length
     ·rw[if_neg (by omega),if_pos h1,if_pos h1]
     ·rw[if_neg h1,if_neg h1]),by rw[dEf];exact hG1,fun k u hu=>aHk hi (fun j u hj hu=>by
      show ROW.getD j default=u;rw[Array.getD_eq_getD_getElem?,hROW,Array.getElem?_append_left (by simp only[Array.size_append,List.size_toArray,hlt];omega),Array.getElem?_append_left (by simp only[List.size_toArray,hlt];omega),List.getElem?_toArray,List.getElem?_take,if_pos hj,hu];rfl) hu⟩
    have h3:=h2.owns hbase (show G<=maxLen by unfold maxLen;omega);rw[dEf] at h3;exact h3
end
section
open Go Go.RowKit Num
theorem dDt{W:World}{b B:Nat}{T:TypeId}{m n:Nat}{v:Value}{xs:List Value}(h:W.ownsRow b T m v n xs)(hB:B<=b):W.ownsRow B T m v n xs:=by
 obtain⟨h0,h1|⟨g,cap,cur,h1,h2,h3⟩⟩:=h
 ·exact⟨h0,.inl h1⟩
 ·exact⟨h0,.inr ⟨g,cap,cur,h1,Nat.le_trans hB h2,h3⟩⟩
structure dI8 where
 cv:Value
 vb:Nat
 rv:Value
noncomputable def dHw:Array Oper:=(f91.body.bind (dDa 18)).getD #[]
def dHd:List (Nat×Nat):=[(0,46),(1,47),(2,48),(3,49),(4,50),(5,51),(6,4),(7,5)]
structure dD7 where
 W0:World
 ls:List Bd
 z:Bd
 a:Option Addr
 c:Nat
 bz:Nat
 at_:Nat
def dD7.val(C:dD7)(γ:dI8):Nat->Value
 |0=>.slice C.a C.ls.length C.c
 |1=>γ.cv
 |2=>.int .i64 C.at_
 |3=>.agg C.z.cs
 |4=>.slice (some ⟨γ.vb,0,none⟩) 1 1
 |5=>γ.rv
 |6=>γ.rv
 |7=>.int .i64 0
 |_=>undef
def dD7.gg(C:dD7)(γ:dI8)(l:Array Bool)(W:World):Prop:=Below C.W0.heap.size C.W0 W/\(bit l 1=true->bit l 5=false->W.ownsRow C.W0.heap.size 49 7 γ.cv C.ls.length (dCw C.ls)/\(bit l 4=true->γ.cv.ownBlock≠some γ.vb))/\(bit l 4=true->bit l 5=false->C.W0.heap.size<=γ.vb/\aP W γ.vb C.z.cs 49)/\(bit l 5=true->W.ownsRow C.W0.heap.size 49 7 γ.rv (dD3 C.ls C.at_ C.z).length (dCw (dD3 C.ls C.at_ C.z)))
structure dJo(C:dD7)(t0:Array Value):Prop where
 sz:t0.size=52
 lo0:t0[0]?=some (.slice C.a C.ls.length C.c)
 lo3:t0[3]?=some (.pointer (some ⟨C.bz,0,none⟩))
 lo9:t0[9]?=some (.int .i64 C.at_)
 kz:aP C.W0 C.bz C.z.cs 49
 hl:Jj C.W0 C.a C.ls
 hn:C.ls.length<=1000
 hat:C.at_<=C.ls.length
theorem dD7.keep{C:dD7}{γ:dI8}{l:Array Bool}{w:World}{i:Nat}(h:C.gg γ l w)(h1:i≠1)(h4:i≠4)(h5:i≠5):C.gg γ (l.setIfInBounds i true) w:=by
 unfold dD7.gg;rw[dCr h1,dCr h4,dCr h5];exact h
section
variable {C:dD7}{t0:Array Value}{Q:Exit->Act->World->Prop}
theorem dGf(M:dJo C t0){a:Act}{w:World}(hdf:a.defers=[])(ht:a.tmps=t0)(hw:w.drewN 1=C.W0)
  (hQ:∀ γ W,Below C.W0.heap.size C.W0 W->W.ownsRow C.W0.heap.size 49 7 γ.rv (dD3 C.ls C.at_ C.z).length (dCw (dD3 C.ls C.at_ C.z))->Q .normal { tmps:=iZ (C.val γ) dHd t0,defers:=[] } W):(Code.region 18 dHw true).wp prog Q a w:=by
 have hsz:dHw.size=8:=by kernel_rfl
 refine dCy (ds:=dHd) (val:=C.val) (G:=C.gg) (by kernel_rfl) (by kernel_rfl) (by decide) (fun p hp=>?_) (by kernel_rfl) ?_ (γ:=⟨.bool false,0,.bool false⟩) hdf ht (by rw[hw];exact by refine⟨Br _ _,?_,?_,?_⟩ <;> (intro h;rw[dC0] at h;cases h)) (fun γ l W hall hg=>hQ γ W hg.1 (hg.2.2.2 (hall 5 (by rw[hsz];decide))))
 ·rw[M.sz];have:∀p,p∈dHd->p.2<52:=by decide
  exact this p hp
 ·intro γ l a w i H hr;have hi:i<8:=by
   obtain⟨_,o,ho,_⟩:=mem_ready.1 hr;have:=(Ai.1 ho).1;rw[hsz] at this;exact this
  have lo0:=H.low (s:=0) (by decide) M.lo0;have lo3:=H.low (s:=3) (by decide) M.lo3;have lo9:=H.low (s:=9) (by decide) M.lo9;have hb:=H.g
  match i,hi,hr with
  |0,_,hr =>
   exact aWj (.move (.tmp 0)) (.slice C.a C.ls.length C.c) (fun o h=>by simp[execOp,h,lo0,go_sem]) (dD7.keep H.g (by decide) (by decide) (by decide))
  |1,_,hr =>
   have v0:a.tmps[46]?=some (.slice C.a C.ls.length C.c):=H.dep hr 0 46;have f1:=dCq hr;have f5:=H.off 1 5 f1;refine gA (f:=41) (lb:=#[]) (c:=.func 41) (args:=#[.tmp 46]) (ts:=#[22]) (vs:=#[.slice C.a C.ls.length C.c]) (by kernel_rfl) rfl (aXb func41) (by simp[Act.eval,v0]) ((dDx C.ls C.a C.c w (by have:=M.hn;omega) (M.hl.below hb.1)).mono ?_);rintro e w' ⟨v,rfl,ho,hb'⟩;refine⟨v,⟨v,γ.vb,γ.rv⟩,rfl,rfl,fun j hj=>?_,?_⟩
   ·match j,hj with
    |1,hj=>exact absurd hj (by rw[show lP l 1=(bit l 1=true) from rfl,f1];decide)
    |0,_|2,_|3,_|4,_|5,_|6,_|7,_=>rfl
    |_+8,_=>rfl
   ·unfold dD7.gg;rw[dCv (by rw[H.sz,hsz];decide),dCr (show (1:Nat)≠4 by decide),dCr (show (1:Nat)≠5 by decide)];refine⟨hb.1.trans (hb'.mono hb.1.size),fun _ _=>⟨dDt ho hb.1.size,fun h4 e=>?_⟩,fun h4 h5=>⟨(hb.2.2.1 h4 h5).1,(hb.2.2.1 h4 h5).2.below hb'⟩,fun h=>by rw[f5] at h;cases h⟩;have h1:=(hb.2.2.1 h4 f5).2.1;have e:v.ownBlock=some γ.vb:=e;have h2:=(ho.lt _ e).1;omega
  |2,_,hr =>
   exact aWj (.move (.tmp 9)) (.int .i64 C.at_) (fun o h=>by simp[execOp,h,lo9,go_sem]) (dD7.keep H.g (by decide) (by decide) (by decide))
  |3,_,hr =>
   have hk:=M.kz.overW hb.1 M.kz.1;exact aWj (.load 49 (.tmp 3)) (.agg C.z.cs) (fun o h=>by exact dC4 h (by simp[Act.eval,lo3]) hk.at0 underlying49 rfl (dF7 _)) (dD7.keep H.g (by decide) (by decide) (by decide))
  |4,_,hr =>
   have v3:a.tmps[49]?=some (.agg C.z.cs):=H.dep hr 3 49;have f4:=dCq hr;have f5:=H.off 4 5 f4;refine aLg (X:=.buildSlice 22 1 #[(0,.tmp 49)]) (v:=.slice (some ⟨w.heap.size,0,none⟩) 1 1) (w':=w.alloc (.cells C.z.cs 49)) ⟨γ.cv,w.heap.size,γ.rv⟩ (fun j hj=>?_) (by kernel_rfl) (fun o h=>?_) rfl ?_
   ·match j,hj with
    |4,hj=>exact absurd hj (by rw[show lP l 4=(bit l 4=true) from rfl,f4];decide)
    |0,_|1,_|2,_|3,_|5,_|6,_|7,_=>rfl
    |_+8,_=>rfl
   ·rw[show C.z.cs=#[.string ⟨C.z.id.toArray⟩,.string ⟨C.z.ins.toArray⟩,.int .i64 C.z.acq,.int .i64 C.z.opn,.string ⟨C.z.q.toArray⟩,.string ⟨C.z.c.toArray⟩,.string ⟨C.z.u.toArray⟩] from rfl] at v3 ⊢;simp[execOp,h,v3,go_sem]
   ·have hb':=aB w (.cells C.z.cs 49);unfold dD7.gg;rw[dCv (by rw[H.sz,hsz];decide),dCr (show (4:Nat)≠1 by decide),dCr (show (4:Nat)≠5 by decide)];refine⟨hb.1.trans (hb'.mono hb.1.size),fun h1 h5=>⟨(dCk.of_below _ hb').owns (hb.2.1 h1 h5).1,fun _ e=>?_⟩,fun _ _=>⟨hb.1.size,aP.new0 _ _ _⟩,fun h=>by rw[f5] at h;cases h⟩;have e:γ.cv.ownBlock=some w.heap.size:=e;have:=((hb.2.1 h1 h5).1.lt _ e).2;omega
  |5,_,hr =>
   have v1:a.tmps[47]?=some (γ.cv):=H.dep hr 1 47;have v2:a.tmps[48]?=some (.int .i64 C.at_):=H.dep hr 2 48;have v4:a.tmps[50]?=some (.slice (some ⟨γ.vb,0,none⟩) 1 1):=H.dep hr 4 50;have f5:=dCq hr;have o1:bit l 1=true:=aG hr (by kernel_rfl);have o4:bit l 4=true:=aG hr (by kernel_rfl);obtain⟨h1,h2⟩:=hb.2.1 o1 f5;obtain⟨h3,h4⟩:=hb.2.2.1 o4 f5;refine gA (f:=141) (lb:=#[]) (c:=.func 141) (args:=#[.tmp 47,.tmp 48,.tmp 50]) (ts:=#[22,3,22]) (vs:=#[γ.cv,.int .i64 C.at_,.slice (some ⟨γ.vb,0,none⟩) 1 1]) (by kernel_rfl) rfl (aXb func141) (by simp[Act.eval,v1,v2,v4]) ((dHn C.ls γ.cv C.z C.at_ γ.vb C.W0.heap.size w M.hn M.hat h1 hb.1.size h4 (h2 o4)).mono ?_);rintro e w' ⟨⟨v,rfl,ho⟩,hb'⟩;refine⟨v,⟨γ.cv,γ.vb,v⟩,rfl,rfl,fun j hj=>?_,?_⟩
   ·match j,hj with
    |5,hj=>exact absurd hj (by rw[show lP l 5=(bit l 5=true) from rfl,f5];decide)
    |6,hj=>exact absurd hj (by rw[show lP l 6=(bit l 6=true) from rfl,H.off 5 6 f5];decide)
    |0,_|1,_|2,_|3,_|4,_|7,_=>rfl
    |_+8,_=>rfl
   ·unfold dD7.gg;rw[dCv (by rw[H.sz,hsz];decide)];exact⟨hb.1.trans hb',fun _ (h:true=false)=>(by cases h),fun _ (h:true=false)=>(by cases h),fun _=>ho⟩
  |6,_,hr =>
   have v5:a.tmps[51]?=some (γ.rv):=H.dep hr 5 51;exact aWj (.assign (.tmp 51)) (γ.rv) (fun o h=>by simp[execOp,h,v5,go_sem]) (dD7.keep H.g (by decide) (by decide) (by decide))
  |7,_,hr =>
   exact aWj (.assign (.const (.int .i64 0))) (.int .i64 0) (fun o h=>by simp[execOp,h,go_sem]) (dD7.keep H.g (by decide) (by decide) (by decide))
  |n+8,h,_=>exact absurd h (by omega)
end
theorem dEt(ins:List UInt8):∀(l:List Bd) (y:Bd) (i a:Nat),bZ0 ins (l ++ [y]) i a=if y.ins<=ins then i+l.length+1 else bZ0 ins l i a
 | [],y,i,a=>by
  show (if y.ins<=ins then i+1 else a)=_;rfl
 |x::r,y,i,a=>by
  rw[List.cons_append];show bZ0 ins (r ++ [y]) (i+1) _=if y.ins<=ins then i+(r.length+1)+1 else bZ0 ins r (i+1) _
  rw[dEt ins r y (i+1)];split
  ·omega
  ·rfl
theorem dF0{ins:List UInt8}{ls:List Bd}{k:Nat}{y:Bd}(h:ls[k]?=some y):bZ0 ins (ls.take (k+1)) 0 0=if y.ins<=ins then k+1 else bZ0 ins (ls.take k) 0 0:=by
 have hk:=(Li.1 h).1;rw[List.take_add_one,h];show bZ0 ins (ls.take k ++ [y]) 0 0=_;rw[dEt,List.length_take,Nat.min_eq_left (by omega),Nat.zero_add]
theorem dFt(ins:List UInt8):∀(l:List Bd) (i a:Nat),a<=i+l.length->bZ0 ins l i a<=i+l.length
 | [],i,a,h=>h
 |x::r,i,a,h=>by
  show bZ0 ins r (i+1) _<=i+(r.length+1)
  have:=dFt ins r (i+1) (if x.ins<=ins then i+1 else a) (by
   rw[List.length_cons] at h;split <;> omega)
  omega
theorem dHz(ls:List Bd)(z:Bd):dD3 ls (bZ0 z.ins ls 0 0) z=bZb ls z:=rfl
theorem dIx{ls:List Bd}{id:List UInt8}(h:id ∉ ls.map (·.id)):ls.any (fun x=>x.id==id)=false:=by
 rw[List.any_eq_false];intro x hx e;exact h (List.mem_map.2 ⟨x,hx,by simpa using e⟩)
theorem dFd{ls:List Bd}(H:bZp ls):aO6 ls=0:=(dB2 ls).2 H
theorem dF1(ls:List Bd)(z:Bd)(a:Option Addr)(c:Nat)(w:World)(hE:iE w)(H:bZp ls)(hz:z.err=0)(hs:∀x,x∈ls->x.small)(hzs:z.small)(hn:z.id ∉ ls.map (·.id))(hw:Jj w a ls):
  Calls prog 91 #[.slice a ls.length c,z.v] w fun e w'=>((1000<=ls.length/\e=.returned (.tuple #[.slice none 0 0,.int .i64 4]))∨(ls.length<1000/\∃v,e=.returned (.tuple #[v,.int .i64 0])/\w'.ownsRow w.heap.size 49 7 v (bZb ls z).length (dAf Bd.cs (bZb ls z))))/\Below w.heap.size w w':=by
 have hlen:=H.len;have HB0:=Hd (aB w (.cells z.cs 49));have KZ:=Hd (aP.new0 w z.cs 49);have H1:=Hd (fun W (hb:Below w.heap.size w W)=>dAu ls a c W (hE.below hb) (by omega) (hw.below hb) hs);rw[dFd H] at H1;have H2:=Hd (fun W (hb:Below w.heap.size w W)=>aMm z W (hE.below hb) hzs.1 hzs.2.1 hzs.2.2.1 hzs.2.2.2.1 hzs.2.2.2.2);rw[hz] at H2;have H3:=Hd (fun W (hb:Below w.heap.size w W)=>dF2 ls z.id a c W (hw.below hb) (by omega));rw[dEg (dIx hn)] at H3;have HL:=Hd hw;have hpl:=dFt z.ins ls 0 0 (Nat.zero_le _);have HPS:=Hd (fun k y (h:ls[k]?=some y)=>dF0 (ins:=z.ins) h);clear hE H hz hs hzs hn hw;simp only[Bd.v] at *
 by_cases g:1000<=ls.length
 ·have g':(1000:Int)<=ls.length:=by omega
  go_enter func91,ntmps91;go_wp2_with fail;refine(H1.out _ HB0.out).mono ?_;rintro e w1 ⟨rfl,hb⟩;have HB:=Hd (aA HB0.out hb);have k:=KZ.out.below hb;obtain⟨k0,k1,k2,k3,k4,k5,k6⟩:=k.lot;clear hb;go_wp2_with fail;refine(H2.out _ HB.out).mono ?_;rintro e w2 ⟨rfl,hb⟩;have HB:=Hd (aA HB.out hb);have k:=k.below hb;have k0:=k.lot.1;clear hb;go_wp2_with fail;refine(H3.out _ HB.out).mono ?_;rintro e w3 ⟨rfl,hb⟩;have HB:=Hd (aA HB.out hb);clear hb;go_wp2;go_ret2;exact⟨.inl ⟨g,rfl⟩,HB.out⟩
 ·have g':¬ (1000:Int)<=ls.length:=by omega
  have HG:=Hd g;go_enter func91,ntmps91;go_wp2_with fail;refine(H1.out _ HB0.out).mono ?_;rintro e w1 ⟨rfl,hb⟩;have HB:=Hd (aA HB0.out hb);have k:=KZ.out.below hb;obtain⟨k0,k1,k2,k3,k4,k5,k6⟩:=k.lot;clear hb;go_wp2_with fail;refine(H2.out _ HB.out).mono ?_;rintro e w2 ⟨rfl,hb⟩;have HB:=Hd (aA HB.out hb);have k:=k.below hb;have k0:=k.lot.1;clear hb k1 k2 k3 k4 k5 k6;go_wp2_with fail;refine(H3.out _ HB.out).mono ?_;rintro e w3 ⟨rfl,hb⟩;have HB:=Hd (aA HB.out hb);have KZ3:=Hd (k.below hb);clear hb k0 k H1 H2 H3 KZ HB0;go_wp2;go_loopw [9,33] (fun m i W=>Hid (Below w.heap.size w W)/\Hid (aP W w.heap.size z.cs 49)/\∃k:Nat,k<=ls.length/\i=.int .i64 (k:Int)/\∃p:Nat,m=.int .i64 (p:Int)/\Hid (p=bZ0 z.ins (ls.take k) 0 0)) (fun _ i _=>ls.length-(intOf i).toNat)
  case atStart=>exact⟨HB,KZ3,0,Nat.zero_le _,rfl,0,rfl,rfl⟩
  case round =>
   obtain⟨hB,hK,k,hk,rfl,p,rfl,hp⟩:=hrel
   by_cases hlt:k<ls.length
   ·obtain⟨x,hx⟩:∃x,ls[k]?=some x:=⟨ls[k],Lg hlt⟩
    obtain⟨b,off,ha,k0',k1,k2,k3,k4,k5,k6⟩:=(HL.out.below hB.out).addr hx;subst ha;have HS:=Hd (HPS.out k x hx);have hq1:=hK.out.lot.2.1;have hbz:=hK.out.1;have HK2:=Hd (hK.out.below (aB wr (.cells #[.string ⟨x.id.toArray⟩,.string ⟨x.ins.toArray⟩,.int .i64 x.acq,.int .i64 x.opn,.string ⟨x.q.toArray⟩,.string ⟨x.c.toArray⟩,.string ⟨x.u.toArray⟩] 49)));have HB2:=Hd (aA hB.out (aB wr (.cells #[.string ⟨x.id.toArray⟩,.string ⟨x.ins.toArray⟩,.int .i64 x.acq,.int .i64 x.opn,.string ⟨x.q.toArray⟩,.string ⟨x.c.toArray⟩,.string ⟨x.u.toArray⟩] 49)));have hbl:=bytesLess_eq x.ins z.ins
    by_cases g1:x.ins<z.ins
    ·have HN:Hid (bZ0 z.ins (ls.take (k+1)) 0 0=k+1):=by show _=_;rw[HS.out,if_pos (by rw[<-List.not_lt];exact fun h=>List.lt_asymm h g1)]
     rw[decide_eq_true g1] at hbl;clear hx g1;go_wp2;go_round
     case rel=>exact⟨HB2,HK2,k+1,by omega,by go_num,k+1,by simp,by show _=_;rw[HN.out]⟩
     case measure=>simp[intOf];omega
    ·rw[decide_eq_false g1] at hbl
     by_cases g2:z.ins<x.ins
     ·have HN:Hid (bZ0 z.ins (ls.take (k+1)) 0 0=bZ0 z.ins (ls.take k) 0 0):=by show _=_;rw[HS.out,if_neg (by rw[List.not_le];exact g2)]
      have hne:(x.ins==z.ins)=false:=by
       rw[beq_eq_false_iff_ne];intro e;rw[e] at g2;exact List.lt_irrefl _ g2
      clear hx g1 g2;go_wp2;go_round
      case rel=>exact⟨HB2,HK2,k+1,by omega,by go_num,p,rfl,by show _=_;rw[HN.out,hp.out]⟩
      case measure=>simp[intOf];omega
     ·have HN:Hid (bZ0 z.ins (ls.take (k+1)) 0 0=k+1):=by show _=_;rw[HS.out,if_pos (by rw[<-List.not_lt];exact g2)]
      have heq:(x.ins==z.ins)=true:=by
       rw[beq_iff_eq];exact List.le_antisymm (List.not_lt.1 g2) (List.not_lt.1 g1)
      clear hx g1 g2;go_wp2;go_round
      case rel=>exact⟨HB2,HK2,k+1,by omega,by go_num,k+1,by simp,by show _=_;rw[HN.out]⟩
      case measure=>simp[intOf];omega
   ·obtain rfl:k=ls.length:=by omega
    have hp2:Hid (p=bZ0 z.ins ls 0 0):=by have:=hp.out;rw[List.take_length] at this;exact this
    have hpl2:p<=ls.length:=by rw[hp2.out];omega
    have HLW:=Hd (HL.out.below hB.out);go_wp2_with fail;refine dGf (C:=⟨wr.drewN 1,ls,z,a,c,w.heap.size,p⟩) ⟨rfl,rfl,rfl,rfl,hK.out,HLW.out,by omega,hpl2⟩ rfl rfl rfl ?_;intro γ W hbW hown;have HO:Hid (W.ownsRow w.heap.size 49 7 γ.rv (bZb ls z).length (dAf Bd.cs (bZb ls z))):=by
     have h:=dDt hown (B:=w.heap.size) hB.out.size;rw[hp2.out] at h;exact h
    have HBW:=Hd (aA (aD hB.out 1) hbW);clear hbW hown;simp only[iZ,dHd,List.foldl,List.setIfInBounds_toArray,List.set_cons_zero,List.set_cons_succ,dD7.val];go_wp2;go_ret2;exact⟨.inr ⟨by have:=HG.out;omega,_,rfl,HO.out⟩,HBW.out⟩
end
end Go.Proofs.YtiloklnjjfaagaaGreatDoor
