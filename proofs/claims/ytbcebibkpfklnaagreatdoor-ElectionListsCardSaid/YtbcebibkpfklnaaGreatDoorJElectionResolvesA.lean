/- Resolve ElectionResolvesReg ElectionResolvesLaw -/
import Derived.Test.YtbcebibkpfklnaaGreatDoorJMem
import Derived.Test.YtbcebibkpfklnaaGreatDoorJWhereA
import Derived.Test.YtbcebibkpfklnaaGreatDoorJElectionA
import Derived.Test.YtbcebibkpfklnaaGreatDoorJRowF
set_option maxHeartbeats 16000000
set_option maxRecDepth 100000
namespace Go.Proofs.YtbcebibkpfklnaaGreatDoor
section
open Go Go.RowKit Num
def fU(f:aF)(o:eJ)(g:Nat):aF:=⟨iQ f.f o,f.pa,f.pc,some ⟨g,0,none⟩,1⟩
theorem Gq(f:aF)(o:eJ)(g:Nat):(fU f o g).arr=f.arr.setIfInBounds 19 (.slice (some ⟨g,0,none⟩) 1 1):=rfl
theorem nG{f:aF}{o:eJ}{g:Nat}{w:World}(hb:f.f.Behind w f.pa f.oa)(h:aP w g o.cells.toArray 42):(fU f o g).f.Behind w (fU f o g).pa (fU f o g).oa:=by
 refine⟨hb.1,.inr ⟨g,0,rfl,h.1,fun k cs hk j v hv=>?_⟩⟩;have hk':[o.cells][k]?=some cs:=hk
 match k,hk' with
 |0,e =>
  obtain rfl:=Option.some.inj e;simp only[Nat.zero_mul,Nat.zero_add];rw[h.cell j,←hv];simp
 |k+1,e=>simp at e
theorem Oa{f:aF}{o:eJ}{g:Nat}(hf:f.ok)(ho:o∈f.f.options):(fU f o g).ok :=
 ⟨⟨hf.small.key,hf.small.ins,hf.small.other,hf.small.cur,hf.small.target,hf.small.q,hf.small.amt,hf.small.fee,hf.small.price,hf.small.ratio,hf.small.share,hf.small.picks,hf.small.pick,by simp[fU,iQ],fun p hp=>by
  have:p=o:=by simpa[fU,iQ] using hp
  subst this;exact hf.small.option _ ho⟩,hf.cap⟩
theorem Nv(o:eJ)(w:World):(Instr.buildSlice 28 1 #[(0,.agg o.cells.toArray)]).run Tryz.prog w=.ok (.slice (some ⟨w.heap.size,0,none⟩) 1 1) (w.alloc (.cells o.cells.toArray 42)):=by
 unfold eJ.cells;simp[go_sem]
theorem yE(o:eJ):(Tryz.prog.info? 42).map (·.size)=some o.cells.toArray.size:=by
 have h:(Tryz.prog.info? 42).map (·.size)=some 7:=by kernel_rfl
 rw[h];rfl
theorem oF{W:World}{b i:Nat}{cs:Array Value}{v:Value}{t:TypeId}(h:aP W b cs t):aP (W.setCell ⟨b,i,none⟩ v) b (cs.setIfInBounds i v) t:=by
 rw[setCell_eq_setRow W b i cs t (0,0) v h.2];exact Ip h
theorem iN{W:World}{b:Nat}{p:Addr}{cs:Array Value}{v:Value}{t:TypeId}(h:aP W b cs t)(hne:b≠p.block):aP (W.setCell p v) b cs t :=
 ⟨by rw[show (W.setCell p v).heap.size=W.heap.size by simp[World.setCell]];exact h.1,(Below.heap_setCell _ _ _ b hne).trans h.2⟩
theorem dR{P:Program}{ops:Array Oper}{rest:List Oper}{o:Oper}{a:Act}{w:World}{Q:Exit→Act→World→Prop}(hgd:o.guard=none)(ty:TypeId)(x y:Operand)(ho:o.op=.store ty x y)(g:Nat)(hx:a.eval x=.pointer (some ⟨g,0,none⟩))(cells:Array Value)(hy:a.eval y=.agg cells)
  {t:TypeId}{old:Array Value}(hg:w.heap[g]?=some (.cells old t (0,0))) (hi:(P.info? ty).map (·.size)=some cells.size) (hold:old.size=cells.size) (h1:cells.all (·.oneCell')=true)
  (h:∀w',aP w' g cells t→(∀B,B≤g→Below B w w')→(∀b cs T,b≠g→aP w b cs T→aP w' b cs T)→w'.heap.size=w.heap.size→wpList P ops Q rest (a.put o.dst undef) w'):wpList P ops Q (o::rest) a w :=
 wpList_store_row hgd ty x y ho g cells hx hy t old hg hi hold h1 (h _ ⟨by simp[World.setRow];exact(Ai.1 hg).1,setRow_heap _ _ _ _ _ _ hg⟩ (fun B hB=>below_setRow (Br _ _) hB _) (fun b cs T hne hb=>pM hb hne) (by simp[World.setRow]))
theorem rN{P:Program}{ops:Array Oper}{rest:List Oper}{o:Oper}{a:Act}{w w':World}{Q:Exit→Act→World→Prop}(hgd:o.guard=none)(t:TypeId)(n:Nat)(ps:Array (Nat×Operand))(ho:o.op=.buildSlice t n ps)(qs:Array (Nat×Value))(v:Value)
  (hps:(ps.map fun (i,x)=>(i,a.eval x))=qs) (hrun:(Instr.buildSlice t n qs).run P w=.ok v w') (h:wpList P ops Q rest (a.put o.dst v) w'):wpList P ops Q (o::rest) a w:=by
 refine wpList_plain hgd fun K hK=>Dp ho (v:=v) (w':=w') ?_ (hK _ _ h)
 rw[hps];exact hrun
theorem vV(xs:List aF)(a:Option Addr)(c:Nat)(f:aF)(w:World)(hE:iE w)(hv:gT w a c xs)(hf:f.ok)(hb:f.f.Behind w f.pa f.oa):
  Calls Tryz.prog 14 #[.slice a xs.length c,.agg f.arr] w fun e w'=>((aL (xs.map aF.f) f.f≠0∧e=.returned (.tuple #[.agg eS,.int .i64 (aL (xs.map aF.f) f.f)]))∨(aL (xs.map aF.f) f.f=0∧∃(k:Nat) (o:eJ) (g:Nat),bC (xs.map aF.f) f.f=(k:Int)∧f.f.options[k]?=some o∧e=.returned (.tuple #[.agg (fU f o g).arr,.int .i64 0])∧aP w' g o.cells.toArray 42))∧Below w.heap.size w w':=by
 have KF:=(aP.new0 w f.arr 30).below (aB _ (.cells eS 30));have KZ:=aP.new0 (w.alloc (.cells f.arr 30)) eS 30;rw[World.size_alloc] at KZ;have HB0:=Hd (aA (aB w (.cells f.arr 30)) (aB _ (.cells eS 30)));have HSZ:Hid ((Tryz.prog.info? 30).map (·.size)=some f.arr.size):=aY f.f f.pa f.oa f.pc f.oc;have HCH:Hid (∀W,Below w.heap.size w W→Calls Tryz.prog 12 #[.slice a xs.length c,.agg f.arr] W fun e w'=>e=.returned (.tuple #[.int .i64 (bC (xs.map aF.f) f.f),.int .i64 (aL (xs.map aF.f) f.f)])∧Below W.heap.size W w'):=fun W hbw=>fE xs a c f W (hE.below hbw) (hv.below hbw) hf (hb.below hbw)
 have HRG:Hid (aL (xs.map aF.f) f.f=0→0≤bC (xs.map aF.f) f.f∧bC (xs.map aF.f) f.f<f.f.options.length):=fun h=>by
  have e:bC (xs.map aF.f) f.f=eZ (xs.map aF.f) f.f:=by unfold bC;rw[if_neg (by simpa using h)]
  rw[e];unfold aL at h;split at h
  ·cases h
  ·rename_i h';exact mC (by rcases Decidable.em (dF (xs.map aF.f)=0) with h|h;exact h;exact absurd (.inl h) h') (by rcases Decidable.em (dQ f.f=0) with h|h;exact h;exact absurd (.inr h) h')
 have HBX:=Hd hb;have KF:=Hd KF;have KZ:=Hd KZ;clear hE hv hb;generalize hcv:bC (xs.map aF.f) f.f=cv at *;generalize hce:aL (xs.map aF.f) f.f=er at *;clear hcv hce;generalize xs.length=n at *;have H19:Hid (f.arr[19]?=some (.slice f.oa f.f.options.length f.oc)):=rfl;have HARR:Hid (∀o g,(fU f o g).arr=f.arr.setIfInBounds 19 (.slice (some ⟨g,0,none⟩) 1 1)):=Gq f;have H21:Hid (f.arr.size=21):=rfl;have HONE:Hid (∀o g,(fU f o g).arr.all (·.oneCell')=true):=fun o g=>dV _
 generalize f.arr=fc at *
 by_cases he:er=0
 ·subst he;obtain⟨h0,h1⟩:=HRG.out rfl;obtain⟨k,rfl⟩:∃k:Nat,cv=(k:Int):=⟨cv.toNat,by omega⟩
  have hk:k<f.f.options.length:=by omega
  obtain⟨o,ho⟩:∃o,f.f.options[k]?=some o:=⟨f.f.options[k],Lg hk⟩
  obtain⟨b,off,hoa,hbl,hc⟩:=HBX.out.2.addr (k:=k) (cs:=o.cells) (by rw[List.getElem?_map,ho];rfl);have HO:=Hd ho;have HC:Hid (∀W,Below w.heap.size w W→∀j v,o.cells.toArray.toList[j]?=some v→W.cell? ⟨b,off+k*7+j,none⟩=some v):=fun W hbw j v hv=>(hbw.cell (p:=⟨b,off+k*7+j,none⟩) hbl).trans (hc j v hv)
  rw[hoa] at H19;have HSO:=Hd (yE o);have HRO:=Hd (Nv o);have HAR:=Hd (HARR.out o);have HON:=Hd (HONE.out o);clear ho hc hbl HRG HBX h0 h1 HARR HONE;generalize f.f.options.length=ol at *;go_enter Tryz.func14,Tryz.ntmps14;go_wp2_with (refine wpList_load_row rfl 30 _ rfl w.heap.size rfl 30 fc (0,0) _ KF.out.2 Tryz.underlying30 rfl HSZ.out ?_);refine(HCH.out _ HB0.out).mono ?_;rintro e w1 ⟨rfl,hb⟩;have k1:=KF.out.below hb;have c19:=(k1.cell 19).trans H19.out;have f19:=aR k1.2 19;have HB1:=Hd (aA HB0.out hb);have HC1:=Hd (HC.out w1 HB1.out);have HRUN:=Hd (HRO.out w1);have hz1:=KZ.out.below hb;have hlt1:w.heap.size<w1.heap.size:=k1.1;have hs1:(w1.setCell ⟨w.heap.size,19,none⟩ (.slice (some ⟨w1.heap.size,0,none⟩) 1 1)).heap.size=w1.heap.size:=by simp[World.setCell]
  have KN:=(oF (i:=19) (v:=.slice (some ⟨w1.heap.size,0,none⟩) 1 1) k1).below (aB _ (.cells o.cells.toArray 42));have HKZ:=Hd ((iN (p:=⟨w.heap.size,19,none⟩) (v:=.slice (some ⟨w1.heap.size,0,none⟩) 1 1) hz1 (Nat.succ_ne_self _)).below (aB _ (.cells o.cells.toArray 42)));have ko:=aP.new0 (w1.setCell ⟨w.heap.size,19,none⟩ (.slice (some ⟨w1.heap.size,0,none⟩) 1 1)) o.cells.toArray 42;rw[hs1] at ko;have HKO:=Hd ko;have HBS:=Hd (aA (HB1.out.setCell (p:=⟨w.heap.size,19,none⟩) (Nl _) (.slice (some ⟨w1.heap.size,0,none⟩) 1 1)) (aB _ (.cells o.cells.toArray 42)));have hne:w1.heap.size≠w.heap.size+1:=by have:=hz1.1;omega
  have HAR1:=HAR.out w1.heap.size;rw[←HAR1] at KN;have KN:=Hd KN;have HON1:=Hd (HON.out w1.heap.size);have HSN:Hid ((Tryz.prog.info? 30).map (·.size)=some (fU f o w1.heap.size).arr.size):=eA;have HS2:Hid (eS.size=(fU f o w1.heap.size).arr.size):=rfl;have HFIN:Hid (∃(k':Nat) (o':eJ) (g:Nat),(k:Int)=(k':Int)∧f.f.options[k']?=some o'∧(fU f o w1.heap.size).arr=(fU f o' g).arr∧o'=o∧g=w1.heap.size):=⟨k,o,_,rfl,HO.out,rfl,rfl,rfl⟩
  clear hb k1 hz1 HCH HB0 HAR1 HAR HON ko hs1 hoa;generalize(fU f o w1.heap.size).arr=na at *;go_wp2_with (first|(refine aM rfl 42 _ rfl b (off+k*7) rfl o.cells.toArray _ HC1.out Tryz.underlying42 rfl HSO.out ?_;simp only[pS])|(refine rN rfl 28 1 _ rfl #[(0,.agg o.cells.toArray)] _ (by simp[Act.eval]) HRUN.out ?_;simp only[pS])|(refine wpList_load_row rfl 30 _ rfl w.heap.size rfl 30 na (0,0) _ KN.out.2 Tryz.underlying30 rfl HSN.out ?_;simp only[pS])|(refine dR rfl 30 _ _ rfl (w.heap.size+1) rfl na rfl HKZ.out.2 HSN.out HS2.out HON1.out ?_;intro w2 k2 b2 o2 _;have HK2:=Hd k2;have HB2:=Hd (HBS.out.trans (b2 _ (Nat.le_succ _)));have HKO2:=Hd (o2 _ _ _ hne HKO.out);clear k2 b2));refine bodyPost_ret (fX rfl _ _ (w.heap.size+1) _ na (0,0) _ rfl HK2.out.2 Tryz.underlying30 rfl HSN.out) rfl ?_;obtain⟨k',o',g',e1,e2,e3,rfl,rfl⟩:=HFIN.out;exact⟨.inr ⟨by first|trivial|rfl,k',o',_,by first|exact e1|trivial,e2,by rw[e3];rfl,HKO2.out⟩,HB2.out⟩
 ·have he':(er==0)=false:=by simpa using he
  have HNE:=Hd he;clear HRG HARR HONE he;go_enter Tryz.func14,Tryz.ntmps14;go_wp2_with (refine wpList_load_row rfl 30 _ rfl w.heap.size rfl 30 fc (0,0) _ KF.out.2 Tryz.underlying30 rfl HSZ.out ?_);refine(HCH.out _ HB0.out).mono ?_;rintro e w1 ⟨rfl,hb⟩;have kz:=KZ.out.below hb;have HB1:=Hd (aA HB0.out hb);have HSZZ:Hid ((Tryz.prog.info? 30).map (·.size)=some eS.size):=eA;have HZ1:Hid (eS.all (·.oneCell')=true):=gO [];have HKZ:=Hd kz;clear hb kz HCH HB0;go_wp2_with (refine fI rfl 30 _ _ rfl (w.heap.size+1) rfl eS rfl HKZ.out.2 HSZZ.out rfl HZ1.out ?_;intro w2 k2 b2 _;have HK2:=Hd k2;have HB2:=Hd (HB1.out.trans (b2 _ (Nat.le_succ _)));clear k2 b2);refine bodyPost_ret (fX rfl _ _ (w.heap.size+1) _ eS (0,0) _ rfl HK2.out.2 Tryz.underlying30 rfl HSZZ.out) rfl ?_;exact⟨.inl ⟨HNE.out,rfl⟩,HB2.out⟩
end
section
open Go Go.RowKit Num
theorem Oc(o:eJ)(W:World):(binOp .neq 42 (.agg o.cells.toArray) (.agg o.cells.toArray)).run Tryz.prog W=.ok (.bool false) W:=by
 unfold eJ.cells;simp[go_sem]
theorem Dl{P:Program}{o:Oper}{a:Act}{w:World}{op:BinOp}{t t':TypeId}{x y:Operand}{u v r:Value}(ho:o.op=.binOp op t x y t')(hx:a.eval x=u)(hy:a.eval y=v)(hg:(eqGuard op t x y u v).run P w=.ok () w)(hb:(binOp op t u v).run P w=.ok r w):(execOp a.eval o).run P w=.ok (.value r) w:=by
 unfold execOp;simp only[ho,hx,hy];simp[hg,hb,Result.andThen]
theorem Zh(o:eJ)(W:World):(eqGuard .neq 42 (.tmp 59) (.tmp 64) (.agg o.cells.toArray) (.agg o.cells.toArray)).run Tryz.prog W=.ok () W:=by
 unfold eJ.cells;simp[go_sem,eqGuard]
theorem bB{ops:Array Oper}{a:Act}{i j s:Nat}(hgd:(ops[i]?).map (·.guard)=some (some (j,false)))(hj:(ops[j]?).bind (·.dst)=some s)(hv:a.tmps[s]?=some (.bool false)):∀o,ops[i]?=some o→Region.wanted o (yielded ops a.tmps)=true:=fun o ho=>by
 rw[nL hgd rfl hj hv o ho];rfl
noncomputable def aAj:Array Oper:=(Tryz.f4.body.bind (jE 9)).getD #[]
def Xe:List (Nat×Nat):=[(0,40),(1,41),(2,42),(3,43),(4,44),(5,45),(6,46),(7,47),(8,48),(9,49),(10,50),(11,51),(12,52),(13,53),(14,54),(15,55),(16,56),(17,57),(18,58),(19,59),(20,60),(21,61),(22,62),(23,63),(24,64),(25,65),(26,66),(27,67),(28,68),(29,69),(30,70),(31,71)]
structure RsC where
 W0:World
 b3:Nat
 b5:Nat
 b:Nat
 off:Nat
 ol:Nat
 oc:Nat
 k:Nat
 g:Nat
 fc:Array Value
 xc:Array Value
 opt:Array Value
def RsC.val(C:RsC)(_:Unit):Nat→Value
 |0=>.int .i64 (C.k:Int)
 |3=>.int .i64 (C.k:Int)
 |4=>.pointer (some ⟨C.b3,19,none⟩)
 |5=>.slice (some ⟨C.b,C.off,none⟩) C.ol C.oc
 |6=>.int .i64 (C.ol:Int)
 |10=>.pointer (some ⟨C.b5,19,none⟩)
 |11=>.slice (some ⟨C.g,0,none⟩) 1 1
 |12=>.int .i64 1
 |16=>.pointer (some ⟨C.b5,19,none⟩)
 |17=>.slice (some ⟨C.g,0,none⟩) 1 1
 |18=>.pointer (some ⟨C.g,0,none⟩)
 |19=>.agg C.opt
 |20=>.pointer (some ⟨C.b3,19,none⟩)
 |21=>.slice (some ⟨C.b,C.off,none⟩) C.ol C.oc
 |22=>.int .i64 (C.k:Int)
 |23=>.pointer (some ⟨C.b,C.off+C.k*7,none⟩)
 |24=>.agg C.opt
 |28=>.agg C.xc
 |29=>.int .i64 0
 |_=>.bool false
def RsC.gg(C:RsC)(_:Unit)(_:Array Bool)(W:World):Prop:=Below C.W0.heap.size C.W0 W
structure RsM(C:RsC)(t0:Array Value):Prop where
 sz:t0.size=96
 t3:t0[3]?=some (.pointer (some ⟨C.b3,0,none⟩))
 t5:t0[5]?=some (.pointer (some ⟨C.b5,0,none⟩))
 t7:t0[7]?=some (.int .i64 (C.k:Int))
 lt:C.k<C.ol
 k3:aP C.W0 C.b3 C.fc 30
 k5:aP C.W0 C.b5 C.xc 30
 e3:C.fc[19]?=some (.slice (some ⟨C.b,C.off,none⟩) C.ol C.oc)
 e5:C.xc[19]?=some (.slice (some ⟨C.g,0,none⟩) 1 1)
 ko:aP C.W0 C.g C.opt 42
 lo:∀W,Below C.W0.heap.size C.W0 W→∀j v,C.opt.toList[j]?=some v→W.cell? ⟨C.b,C.off+C.k*7+j,none⟩=some v
 osz:(Tryz.prog.info? 42).map (·.size)=some C.opt.size
 xsz:(Tryz.prog.info? 30).map (·.size)=some C.xc.size
 neq:∀W,(binOp .neq 42 (.agg C.opt) (.agg C.opt)).run Tryz.prog W=.ok (.bool false) W
 grd:∀W,(eqGuard .neq 42 (.tmp 59) (.tmp 64) (.agg C.opt) (.agg C.opt)).run Tryz.prog W=.ok () W
 chk:∀W,Below C.W0.heap.size C.W0 W→Calls Tryz.prog 16 #[.agg C.xc] W fun e w'=>e=.returned (.int .i64 0)∧Below W.heap.size W w'
section
variable {C:RsC}{t0:Array Value}{Q:Exit→Act→World→Prop}
theorem Ps(M:RsM C t0){a:Act}{w:World}(hdf:a.defers=[])(ht:a.tmps=t0)(hw:w.drewN 1=C.W0)
  (hQ:∀W,Below C.W0.heap.size C.W0 W→Q .normal { tmps:=iZ (C.val ()) Xe t0,defers:=[] } W):(Code.region 9 aAj true).wp Tryz.prog Q a w:=by
 have hsz:aAj.size=32:=by kernel_rfl
 refine eV (ds:=Xe) (val:=C.val) (G:=C.gg) (by kernel_rfl) (by kernel_rfl) (by decide) (fun p hp=>?_) (by kernel_rfl) ?_ (γ:=()) hdf ht (by rw[hw];exact Br _ _) (fun _ _ W _ hg=>hQ W hg)
 ·rw[M.sz];have:∀p,p∈Xe→p.2<96:=by decide
  exact this p hp
 ·intro γ l a w i H hr;cases γ;have hi:i<32:=by
   obtain⟨_,o,ho,_⟩:=mem_ready.1 hr;have:=(Ai.1 ho).1;rw[hsz] at this;exact this
  have t3:=H.low (s:=3) (by decide) M.t3;have t5:=H.low (s:=5) (by decide) M.t5;have t7:=H.low (s:=7) (by decide) M.t7;have hb:Below C.W0.heap.size C.W0 w:=H.g
  match i,hi,hr with
  |0,_,hr =>
   exact aH (X:=.move (.tmp 7)) (v:=.int .i64 (C.k:Int)) (by kernel_rfl) (fun o h=>by simp[execOp,h,t7,go_sem]) rfl hb
  |1,_,hr =>
   have v0:a.tmps[40]?=some (.int .i64 (C.k:Int)):=H.dep hr 0 40 (by kernel_rfl) ⟨rfl,by decide⟩;exact aH (X:=.binOp .lss 3 (.tmp 40) (.const (.int .i64 0)) 3) (v:=.bool false) (by kernel_rfl) (fun o h=>by simp[execOp,h,v0,go_sem]) rfl hb
  |2,_,hr =>
   have v1:a.tmps[41]?=some (.bool false):=H.dep hr 1 41 (by kernel_rfl) ⟨rfl,by decide⟩;exact aH (X:=.move (.tmp 41)) (v:=.bool false) (by kernel_rfl) (fun o h=>by simp[execOp,h,v1,go_sem]) rfl hb
  |3,_,hr =>
   have hv:a.tmps[42]?=some (.bool false):=H.dep hr 2 42 (by kernel_rfl) ⟨rfl,by decide⟩;exact bA (X:=.move (.tmp 7)) (v:=.int .i64 (C.k:Int)) (by kernel_rfl) (bB (i:=3) (j:=2) (s:=42) (by kernel_rfl) (by kernel_rfl) hv) (fun o h=>by simp[execOp,h,t7,go_sem]) rfl hb
  |4,_,hr =>
   have hv:a.tmps[42]?=some (.bool false):=H.dep hr 2 42 (by kernel_rfl) ⟨rfl,by decide⟩;exact bA (X:=.fieldAddr 30 (.tmp 3) 16) (v:=.pointer (some ⟨C.b3,19,none⟩)) (by kernel_rfl) (bB (i:=4) (j:=2) (s:=42) (by kernel_rfl) (by kernel_rfl) hv) (fun o h=>by simp[execOp,h,t3,go_sem]) rfl hb
  |5,_,hr =>
   have hv:a.tmps[42]?=some (.bool false):=H.dep hr 2 42 (by kernel_rfl) ⟨rfl,by decide⟩;have v4:a.tmps[44]?=some (.pointer (some ⟨C.b3,19,none⟩)):=H.dep hr 4 44 (by kernel_rfl) ⟨rfl,by decide⟩;have hc:=(M.k3.below hb).cell 19;rw[M.e3] at hc;exact bA (X:=.load 28 (.tmp 44)) (v:=.slice (some ⟨C.b,C.off,none⟩) C.ol C.oc) (by kernel_rfl) (bB (i:=5) (j:=2) (s:=42) (by kernel_rfl) (by kernel_rfl) hv) (fun o h=>by simp[execOp,h,v4,hc,go_sem]) rfl hb
  |6,_,hr =>
   have hv:a.tmps[42]?=some (.bool false):=H.dep hr 2 42 (by kernel_rfl) ⟨rfl,by decide⟩;have v5:a.tmps[45]?=some (.slice (some ⟨C.b,C.off,none⟩) C.ol C.oc):=H.dep hr 5 45 (by kernel_rfl) ⟨rfl,by decide⟩;exact bA (X:=.call { callee:=.builtin .len,args:=#[.tmp 45],argTypes:=#[28] }) (v:=.int .i64 (C.ol:Int)) (by kernel_rfl) (bB (i:=6) (j:=2) (s:=42) (by kernel_rfl) (by kernel_rfl) hv) (fun o h=>by simp[execOp,h,v5,go_sem]) rfl hb
  |7,_,hr =>
   have hv:a.tmps[42]?=some (.bool false):=H.dep hr 2 42 (by kernel_rfl) ⟨rfl,by decide⟩;have v3:a.tmps[43]?=some (.int .i64 (C.k:Int)):=H.dep hr 3 43 (by kernel_rfl) ⟨rfl,by decide⟩;have v6:a.tmps[46]?=some (.int .i64 (C.ol:Int)):=H.dep hr 6 46 (by kernel_rfl) ⟨rfl,by decide⟩;have hlt:=M.lt;exact bA (X:=.binOp .geq 3 (.tmp 43) (.tmp 46) 3) (v:=.bool false) (by kernel_rfl) (bB (i:=7) (j:=2) (s:=42) (by kernel_rfl) (by kernel_rfl) hv) (fun o h=>by simp[execOp,h,v3,v6,go_sem];omega) rfl hb
  |8,_,hr =>
   have v2:a.tmps[42]?=some (.bool false):=H.dep hr 2 42 (by kernel_rfl) ⟨rfl,by decide⟩;have v7:a.tmps[47]?=some (.bool false):=H.dep hr 7 47 (by kernel_rfl) ⟨rfl,by decide⟩;exact aH (X:=.pick (.tmp 42) (.const (.bool true)) (.tmp 47)) (v:=.bool false) (by kernel_rfl) (fun o h=>by simp[execOp,h,v2,v7,go_sem]) rfl hb
  |9,_,hr =>
   have v8:a.tmps[48]?=some (.bool false):=H.dep hr 8 48 (by kernel_rfl) ⟨rfl,by decide⟩;exact aH (X:=.move (.tmp 48)) (v:=.bool false) (by kernel_rfl) (fun o h=>by simp[execOp,h,v8,go_sem]) rfl hb
  |10,_,hr =>
   have hv:a.tmps[49]?=some (.bool false):=H.dep hr 9 49 (by kernel_rfl) ⟨rfl,by decide⟩;exact bA (X:=.fieldAddr 30 (.tmp 5) 16) (v:=.pointer (some ⟨C.b5,19,none⟩)) (by kernel_rfl) (bB (i:=10) (j:=9) (s:=49) (by kernel_rfl) (by kernel_rfl) hv) (fun o h=>by simp[execOp,h,t5,go_sem]) rfl hb
  |11,_,hr =>
   have hv:a.tmps[49]?=some (.bool false):=H.dep hr 9 49 (by kernel_rfl) ⟨rfl,by decide⟩;have v10:a.tmps[50]?=some (.pointer (some ⟨C.b5,19,none⟩)):=H.dep hr 10 50 (by kernel_rfl) ⟨rfl,by decide⟩;have hc:=(M.k5.below hb).cell 19;rw[M.e5] at hc;exact bA (X:=.load 28 (.tmp 50)) (v:=.slice (some ⟨C.g,0,none⟩) 1 1) (by kernel_rfl) (bB (i:=11) (j:=9) (s:=49) (by kernel_rfl) (by kernel_rfl) hv) (fun o h=>by simp[execOp,h,v10,hc,go_sem]) rfl hb
  |12,_,hr =>
   have hv:a.tmps[49]?=some (.bool false):=H.dep hr 9 49 (by kernel_rfl) ⟨rfl,by decide⟩;have v11:a.tmps[51]?=some (.slice (some ⟨C.g,0,none⟩) 1 1):=H.dep hr 11 51 (by kernel_rfl) ⟨rfl,by decide⟩;exact bA (X:=.call { callee:=.builtin .len,args:=#[.tmp 51],argTypes:=#[28] }) (v:=.int .i64 1) (by kernel_rfl) (bB (i:=12) (j:=9) (s:=49) (by kernel_rfl) (by kernel_rfl) hv) (fun o h=>by simp[execOp,h,v11,go_sem]) rfl hb
  |13,_,hr =>
   have hv:a.tmps[49]?=some (.bool false):=H.dep hr 9 49 (by kernel_rfl) ⟨rfl,by decide⟩;have v12:a.tmps[52]?=some (.int .i64 1):=H.dep hr 12 52 (by kernel_rfl) ⟨rfl,by decide⟩;exact bA (X:=.binOp .neq 3 (.tmp 52) (.const (.int .i64 1)) 3) (v:=.bool false) (by kernel_rfl) (bB (i:=13) (j:=9) (s:=49) (by kernel_rfl) (by kernel_rfl) hv) (fun o h=>by simp[execOp,h,v12,go_sem]) rfl hb
  |14,_,hr =>
   have v9:a.tmps[49]?=some (.bool false):=H.dep hr 9 49 (by kernel_rfl) ⟨rfl,by decide⟩;have v13:a.tmps[53]?=some (.bool false):=H.dep hr 13 53 (by kernel_rfl) ⟨rfl,by decide⟩;exact aH (X:=.pick (.tmp 49) (.const (.bool true)) (.tmp 53)) (v:=.bool false) (by kernel_rfl) (fun o h=>by simp[execOp,h,v9,v13,go_sem]) rfl hb
  |15,_,hr =>
   have v14:a.tmps[54]?=some (.bool false):=H.dep hr 14 54 (by kernel_rfl) ⟨rfl,by decide⟩;exact aH (X:=.move (.tmp 54)) (v:=.bool false) (by kernel_rfl) (fun o h=>by simp[execOp,h,v14,go_sem]) rfl hb
  |16,_,hr =>
   have hv:a.tmps[55]?=some (.bool false):=H.dep hr 15 55 (by kernel_rfl) ⟨rfl,by decide⟩;exact bA (X:=.fieldAddr 30 (.tmp 5) 16) (v:=.pointer (some ⟨C.b5,19,none⟩)) (by kernel_rfl) (bB (i:=16) (j:=15) (s:=55) (by kernel_rfl) (by kernel_rfl) hv) (fun o h=>by simp[execOp,h,t5,go_sem]) rfl hb
  |17,_,hr =>
   have hv:a.tmps[55]?=some (.bool false):=H.dep hr 15 55 (by kernel_rfl) ⟨rfl,by decide⟩;have v16:a.tmps[56]?=some (.pointer (some ⟨C.b5,19,none⟩)):=H.dep hr 16 56 (by kernel_rfl) ⟨rfl,by decide⟩;have hc:=(M.k5.below hb).cell 19;rw[M.e5] at hc;exact bA (X:=.load 28 (.tmp 56)) (v:=.slice (some ⟨C.g,0,none⟩) 1 1) (by kernel_rfl) (bB (i:=17) (j:=15) (s:=55) (by kernel_rfl) (by kernel_rfl) hv) (fun o h=>by simp[execOp,h,v16,hc,go_sem]) rfl hb
  |18,_,hr =>
   have hv:a.tmps[55]?=some (.bool false):=H.dep hr 15 55 (by kernel_rfl) ⟨rfl,by decide⟩;have v17:a.tmps[57]?=some (.slice (some ⟨C.g,0,none⟩) 1 1):=H.dep hr 17 57 (by kernel_rfl) ⟨rfl,by decide⟩;exact bA (X:=.indexAddr 28 (.tmp 57) (.const (.int .i64 0))) (v:=.pointer (some ⟨C.g,0,none⟩)) (by kernel_rfl) (bB (i:=18) (j:=15) (s:=55) (by kernel_rfl) (by kernel_rfl) hv) (fun o h=>by simp[execOp,h,v17,go_sem]) rfl hb
  |19,_,hr =>
   have hv:a.tmps[55]?=some (.bool false):=H.dep hr 15 55 (by kernel_rfl) ⟨rfl,by decide⟩;have v18:a.tmps[58]?=some (.pointer (some ⟨C.g,0,none⟩)):=H.dep hr 18 58 (by kernel_rfl) ⟨rfl,by decide⟩;exact bA (X:=.load 42 (.tmp 58)) (v:=.agg C.opt) (by kernel_rfl) (bB (i:=19) (j:=15) (s:=55) (by kernel_rfl) (by kernel_rfl) hv) (fun o h=>aW h (oC v18) (gR (M.ko.below hb)) Tryz.underlying42 rfl M.osz) rfl hb
  |20,_,hr =>
   have hv:a.tmps[55]?=some (.bool false):=H.dep hr 15 55 (by kernel_rfl) ⟨rfl,by decide⟩;exact bA (X:=.fieldAddr 30 (.tmp 3) 16) (v:=.pointer (some ⟨C.b3,19,none⟩)) (by kernel_rfl) (bB (i:=20) (j:=15) (s:=55) (by kernel_rfl) (by kernel_rfl) hv) (fun o h=>by simp[execOp,h,t3,go_sem]) rfl hb
  |21,_,hr =>
   have hv:a.tmps[55]?=some (.bool false):=H.dep hr 15 55 (by kernel_rfl) ⟨rfl,by decide⟩;have v20:a.tmps[60]?=some (.pointer (some ⟨C.b3,19,none⟩)):=H.dep hr 20 60 (by kernel_rfl) ⟨rfl,by decide⟩;have hc:=(M.k3.below hb).cell 19;rw[M.e3] at hc;exact bA (X:=.load 28 (.tmp 60)) (v:=.slice (some ⟨C.b,C.off,none⟩) C.ol C.oc) (by kernel_rfl) (bB (i:=21) (j:=15) (s:=55) (by kernel_rfl) (by kernel_rfl) hv) (fun o h=>by simp[execOp,h,v20,hc,go_sem]) rfl hb
  |22,_,hr =>
   have hv:a.tmps[55]?=some (.bool false):=H.dep hr 15 55 (by kernel_rfl) ⟨rfl,by decide⟩;exact bA (X:=.move (.tmp 7)) (v:=.int .i64 (C.k:Int)) (by kernel_rfl) (bB (i:=22) (j:=15) (s:=55) (by kernel_rfl) (by kernel_rfl) hv) (fun o h=>by simp[execOp,h,t7,go_sem]) rfl hb
  |23,_,hr =>
   have hv:a.tmps[55]?=some (.bool false):=H.dep hr 15 55 (by kernel_rfl) ⟨rfl,by decide⟩;have v21:a.tmps[61]?=some (.slice (some ⟨C.b,C.off,none⟩) C.ol C.oc):=H.dep hr 21 61 (by kernel_rfl) ⟨rfl,by decide⟩;have v22:a.tmps[62]?=some (.int .i64 (C.k:Int)):=H.dep hr 22 62 (by kernel_rfl) ⟨rfl,by decide⟩;have hlt:=M.lt;exact bA (X:=.indexAddr 28 (.tmp 61) (.tmp 62)) (v:=.pointer (some ⟨C.b,C.off+C.k*7,none⟩)) (by kernel_rfl) (bB (i:=23) (j:=15) (s:=55) (by kernel_rfl) (by kernel_rfl) hv) (fun o h=>by simp[execOp,h,v21,v22,hlt,go_sem]) rfl hb
  |24,_,hr =>
   have hv:a.tmps[55]?=some (.bool false):=H.dep hr 15 55 (by kernel_rfl) ⟨rfl,by decide⟩;have v23:a.tmps[63]?=some (.pointer (some ⟨C.b,C.off+C.k*7,none⟩)):=H.dep hr 23 63 (by kernel_rfl) ⟨rfl,by decide⟩;exact bA (X:=.load 42 (.tmp 63)) (v:=.agg C.opt) (by kernel_rfl) (bB (i:=24) (j:=15) (s:=55) (by kernel_rfl) (by kernel_rfl) hv) (fun o h=>aW h (oC v23) (M.lo w hb) Tryz.underlying42 rfl M.osz) rfl hb
  |25,_,hr =>
   have hv:a.tmps[55]?=some (.bool false):=H.dep hr 15 55 (by kernel_rfl) ⟨rfl,by decide⟩;have v19:a.tmps[59]?=some (.agg C.opt):=H.dep hr 19 59 (by kernel_rfl) ⟨rfl,by decide⟩;have v24:a.tmps[64]?=some (.agg C.opt):=H.dep hr 24 64 (by kernel_rfl) ⟨rfl,by decide⟩;have hq:=M.neq w;exact bA (X:=.binOp .neq 42 (.tmp 59) (.tmp 64) 42) (v:=.bool false) (by kernel_rfl) (bB (i:=25) (j:=15) (s:=55) (by kernel_rfl) (by kernel_rfl) hv) (fun o h=>Dl h (oC v19) (oC v24) (M.grd w) hq) rfl hb
  |26,_,hr =>
   have v15:a.tmps[55]?=some (.bool false):=H.dep hr 15 55 (by kernel_rfl) ⟨rfl,by decide⟩;have v25:a.tmps[65]?=some (.bool false):=H.dep hr 25 65 (by kernel_rfl) ⟨rfl,by decide⟩;exact aH (X:=.pick (.tmp 55) (.const (.bool true)) (.tmp 65)) (v:=.bool false) (by kernel_rfl) (fun o h=>by simp[execOp,h,v15,v25,go_sem]) rfl hb
  |27,_,hr =>
   have v26:a.tmps[66]?=some (.bool false):=H.dep hr 26 66 (by kernel_rfl) ⟨rfl,by decide⟩;exact aH (X:=.move (.tmp 66)) (v:=.bool false) (by kernel_rfl) (fun o h=>by simp[execOp,h,v26,go_sem]) rfl hb
  |28,_,hr =>
   have hv:a.tmps[67]?=some (.bool false):=H.dep hr 27 67 (by kernel_rfl) ⟨rfl,by decide⟩;exact bA (X:=.load 30 (.tmp 5)) (v:=.agg C.xc) (by kernel_rfl) (bB (i:=28) (j:=27) (s:=67) (by kernel_rfl) (by kernel_rfl) hv) (fun o h=>aW h (oC t5) (gR (M.k5.below hb)) Tryz.underlying30 rfl M.xsz) rfl hb
  |29,_,hr =>
   have hv:a.tmps[67]?=some (.bool false):=H.dep hr 27 67 (by kernel_rfl) ⟨rfl,by decide⟩;have v28:a.tmps[68]?=some (.agg C.xc):=H.dep hr 28 68 (by kernel_rfl) ⟨rfl,by decide⟩;refine mX (f:=16) (lb:=#[]) (c:=.func 16) (args:=#[.tmp 68]) (ts:=#[30]) (vs:=#[.agg C.xc]) (by kernel_rfl) (bB (i:=29) (j:=27) (s:=67) (by kernel_rfl) (by kernel_rfl) hv) rfl (enters_of Tryz.func16 (by kernel_rfl) rfl) (by simp[Act.eval,v28]) ((M.chk w hb).mono ?_);rintro e w' ⟨rfl,hb'⟩;exact⟨_,(),rfl,rfl,fun _ _=>rfl,aA hb hb'⟩
  |30,_,hr =>
   have hv:a.tmps[67]?=some (.bool false):=H.dep hr 27 67 (by kernel_rfl) ⟨rfl,by decide⟩;have v29:a.tmps[69]?=some (.int .i64 0):=H.dep hr 29 69 (by kernel_rfl) ⟨rfl,by decide⟩;exact bA (X:=.binOp .neq 33 (.tmp 69) (.const (.int .i64 0)) 33) (v:=.bool false) (by kernel_rfl) (bB (i:=30) (j:=27) (s:=67) (by kernel_rfl) (by kernel_rfl) hv) (fun o h=>by simp[execOp,h,v29,go_sem]) rfl hb
  |31,_,hr =>
   have v27:a.tmps[67]?=some (.bool false):=H.dep hr 27 67 (by kernel_rfl) ⟨rfl,by decide⟩;have v30:a.tmps[70]?=some (.bool false):=H.dep hr 30 70 (by kernel_rfl) ⟨rfl,by decide⟩;exact aH (X:=.pick (.tmp 67) (.const (.bool true)) (.tmp 70)) (v:=.bool false) (by kernel_rfl) (fun o h=>by simp[execOp,h,v27,v30,go_sem]) rfl hb
  |n+32,h,_=>exact absurd h (by omega)
end
end
section
open Go Go.RowKit Num
def Sc:aE:=⟨[],0,false,0,0,[],[],[],[],[],[],[],⟨[],[]⟩,⟨[],[]⟩,⟨[],[]⟩,[],[],0⟩
theorem oQ(xs:List aF)(x:aF)(a:Option Addr)(c:Nat)(w:World)(hE:iE w)(hn:xs.length≤9223372036854775807)(_hcap:xs.length≤c)(hr:fS w a xs)(hf:∀x,x∈xs→x.fits)(hb:x.f.Behind w x.pa x.oa)(hfx:x.fits):
  Calls Tryz.prog 4 #[.slice a xs.length c,.agg x.arr] w fun e w'=>e=.returned (.bool true)∧Below w.heap.size w w':=by
 have KX:=Hd (aP.new0 w x.arr 30);have HB0:=Hd (aB w (.cells x.arr 30));have HRUN0:=tF x.arr rfl (w.alloc (.cells x.arr 30));rw[World.size_alloc] at HRUN0;have HRUN:=Hd HRUN0;have HBr:=aB (w.alloc (.cells x.arr 30)) (.cells x.arr 30);have KR:=aP.new0 (w.alloc (.cells x.arr 30)) x.arr 30;have HB1:=Hd (aA HB0.out HBr);have KX1:=Hd (KX.out.below HBr);rw[World.size_alloc] at KR;have HG0:=nJ xs [x] a (some ⟨w.heap.size+1,0,none⟩) c 1 ((w.alloc (.cells x.arr 30)).alloc (.cells x.arr 30)) hn (hr.below HB1.out) hf (by simp) (uV x KR (hb.below HB1.out)) (by intro y hy;rw[List.mem_singleton] at hy;subst hy;exact hfx);rw[show [x].length=1 from rfl] at HG0;have HG:=Hd HG0;have HAW:Hid (∀W,Below w.heap.size w W→Calls Tryz.prog 11 #[] W fun e w'=>e=.returned (.bool true)∧Below W.heap.size W w'):=fun W hb=>nR W (hE.below hb)
 have HE:=Hd hE;have HR:=Hd hr;have HF:=Hd hf;have HFX:=Hd hfx;have HBX:=Hd hb;have HSZ:Hid ((Tryz.prog.info? 30).map (·.size)=some x.arr.size):=aY x.f x.pa x.oa x.pc x.oc;have HONE:=Hd (dV x);have HX0:Hid (x.arr[0]?=some (.string ⟨x.f.key.toArray⟩)∧x.arr[19]?=some (.slice x.oa x.f.options.length x.oc)):=⟨rfl,rfl⟩
 obtain⟨fc,hfc⟩:∃fc,fc=x.arr:=⟨_,rfl⟩
 have HFC:=Hd hfc;rw[←hfc] at KX KX1 HB0 HB1 HG HSZ HRUN HX0 HONE ⊢;clear hE hr hf hb hfx hfc HBr KR HRUN0 HG0;go_enter Tryz.func4,Tryz.ntmps4;go_wp2_with (first|(refine wpList_load_row rfl 30 _ rfl w.heap.size rfl 30 fc (0,0) _ KX.out.2 Tryz.underlying30 rfl HSZ.out ?_;simp only[pS])|(refine lA rfl 22 1 _ rfl #[(0,.agg fc)] _ (by simp[Act.eval]) HRUN.out ?_;simp only[pS]));refine HG.out.mono ?_;rintro e w1 ⟨⟨g,rfl,hg⟩,hb⟩;have KX:=Hd (KX1.out.below hb);have HB1:=Hd (aA HB1.out hb);have HGS:=Hd hg;clear hb hg HG KX1 HRUN HB0;cases g with
 |true =>
  go_wp2_with fail;refine(HAW.out _ HB1.out).mono ?_;rintro e w2 ⟨rfl,hb⟩;go_wp2;go_ret;exact⟨rfl,aA HB1.out hb⟩
 |false =>
  have HSM:=Hd (HGS.out rfl);have HTX:Hid x.f.tight:=(HGS.out rfl).2 x (by simp);clear HGS;have hlen:xs.length≤1003:=by rcases HSM.out.1.2 with h|h <;> omega
  have HV:Hid (gT w a c xs):=⟨HR.out,fun y hy=>⟨(HSM.out.1.1 y hy).small,(HF.out y hy).picks⟩,by omega⟩
  have HXO:Hid x.ok:=⟨HTX.out.small,HFX.out.picks⟩
  obtain⟨fs,hfs⟩:∃fs,fs=xs.map aF.f:=⟨_,rfl⟩
  have HCH:Hid (∀W,Below w.heap.size w W→Calls Tryz.prog 12 #[.slice a xs.length c,.agg fc] W fun e w'=>e=.returned (.tuple #[.int .i64 (bC fs x.f),.int .i64 (aL fs x.f)])∧Below W.heap.size W w'):=fun W hb=>by
   rw[HFC.out,hfs];exact fE xs a c x W (HE.out.below hb) (HV.out.below hb) HXO.out (HBX.out.below hb)
  have HCL:Hid (∀(ys:List aF) (a':Option Addr) (c':Nat) W,Below w.heap.size w W→gT W a' c' ys→Calls Tryz.prog 12 #[.slice a' ys.length c',.agg fc] W fun e w'=>e=.returned (.tuple #[.int .i64 (bC (ys.map aF.f) x.f),.int .i64 (aL (ys.map aF.f) x.f)])∧Below W.heap.size W w'):=fun ys a' c' W hb hv=>by
   rw[HFC.out];exact fE ys a' c' x W (HE.out.below hb) hv HXO.out (HBX.out.below hb)
  have HRS:Hid (∀W,Below w.heap.size w W→Calls Tryz.prog 14 #[.slice a xs.length c,.agg fc] W fun e w'=>((aL fs x.f≠0∧e=.returned (.tuple #[.agg eS,.int .i64 (aL fs x.f)]))∨(aL fs x.f=0∧∃(k:Nat) (o:eJ) (g:Nat),bC fs x.f=(k:Int)∧x.f.options[k]?=some o∧e=.returned (.tuple #[.agg (fU x o g).arr,.int .i64 0])∧aP w' g o.cells.toArray 42))∧Below W.heap.size W w'):=fun W hb=>by
   rw[HFC.out,hfs];exact vV xs a c x W (HE.out.below hb) (HV.out.below hb) HXO.out (HBX.out.below hb)
  have HCO:Hid (aL fs x.f=0→∀(k:Nat) (o:eJ) (g:Nat) W,x.f.options[k]?=some o→Below w.heap.size w W→aP W g o.cells.toArray 42→Calls Tryz.prog 12 #[.slice a xs.length c,.agg (fU x o g).arr] W fun e w'=>e=.returned (.tuple #[.int .i64 0,.int .i64 0])∧Below W.heap.size W w'):=fun h k o g W ho hb hk=>by
   have hm:=List.mem_of_getElem? ho;rw[hfs] at h;obtain⟨h1,h2⟩:=oS h;have h3:=tL h2 hm;have e1:aL (xs.map aF.f) (fU x o g).f=0:=vJ h1 h3;have:=fE xs a c (fU x o g) W (HE.out.below hb) (HV.out.below hb) (Oa HXO.out hm) (nG (HBX.out.below hb) hk);rw[pK e1,e1,show eZ (xs.map aF.f) (fU x o g).f=0 from Mg h1 h3 rfl] at this;exact this
  have HXC:Hid (aL fs x.f=0→∀(k:Nat) (o:eJ) (g:Nat) W,x.f.options[k]?=some o→Below w.heap.size w W→aP W g o.cells.toArray 42→Calls Tryz.prog 16 #[.agg (fU x o g).arr] W fun e w'=>e=.returned (.int .i64 0)∧Below W.heap.size W w'):=fun h k o g W ho hb hk=>by
   have hm:=List.mem_of_getElem? ho;rw[hfs] at h;have h3:=tL (oS h).2 hm;have:=rZ (fU x o g) W (HE.out.below hb) (Oa HXO.out hm) (nG (HBX.out.below hb) hk);rw[show dQ (fU x o g).f=0 from h3] at this;exact this
  have HSS:Hid (∀W,Below w.heap.size w W→Calls Tryz.prog 19 #[.agg fc,.agg fc] W fun e w'=>e=.returned (.bool true)∧Below W.heap.size W w'):=fun W hb=>by
   rw[HFC.out];exact rK x.f x.pa x.oa x.pa x.oa x.pc x.oc x.pc x.oc W (HBX.out.below hb) (HBX.out.below hb) HTX.out.sizes.1 HTX.out.sizes.2
  have HSZZ:Hid (∀W,Calls Tryz.prog 19 #[.agg eS,.agg eS] W fun e w'=>e=.returned (.bool true)∧Below W.heap.size W w'):=fun W=>rK Sc none none none none 0 0 0 0 W ⟨.inl rfl,.inl rfl⟩ ⟨.inl rfl,.inl rfl⟩ (by decide) (by decide)
  have HBACK:Hid (∀o g,(fU x o g).arr.setIfInBounds 19 (.slice x.oa x.f.options.length x.oc)=fc):=fun o g=>by rw[HFC.out];rfl
  have HSC:Hid (∀(k:Nat) (o:eJ),x.f.options[k]?=some o→∃b off,x.oa=some ⟨b,off,none⟩∧∀W,Below w.heap.size w W→∀j v,o.cells.toArray.toList[j]?=some v→W.cell? ⟨b,off+k*7+j,none⟩=some v):=fun k o ho=>by
   obtain⟨b,off,hoa,hbl,hc⟩:=HBX.out.2.addr (k:=k) (cs:=o.cells) (by rw[List.getElem?_map,ho];rfl);exact⟨b,off,hoa,fun W hb j v hv=>(hb.cell (p:=⟨b,off+k*7+j,none⟩) hbl).trans (hc j v hv)⟩
  have HKL:Hid (∀(k:Nat) (o:eJ),x.f.options[k]?=some o→k<x.f.options.length):=fun k o h=>(Li.1 h).1
  clear HR HF HFX HSM HV HXO HTX HE hfs hlen HBX HFC;generalize bC fs x.f=cv at *;generalize aL fs x.f=er at *;generalize x.f.options.length=ol at *;clear HCL;go_wp2_with (refine wpList_load_row rfl 30 _ rfl w.heap.size rfl 30 fc (0,0) _ KX.out.2 Tryz.underlying30 rfl HSZ.out ?_);refine(HRS.out _ HB1.out).mono ?_;rintro e w2 ⟨hres,hb⟩;have KX2:=Hd ((KX.out.below hb).below (aB w2 (.cells eS 30)));have HB2:=Hd (aA HB1.out hb);have HB2a:=Hd (aA HB2.out (aB w2 (.cells eS 30)));have HNEW:=Hd (heap_alloc_new w2 (.cells eS 30));have HLT:Hid (w.heap.size<w2.heap.size):=Nat.lt_of_lt_of_le KX.out.1 hb.size;rcases hres with⟨he,rfl⟩|⟨he,k,o,g,hcv,ho,rfl,hko⟩
  ·have he':(er==0)=false:=by simpa using he
   have HZS:Hid ((Tryz.prog.info? 30).map (·.size)=some eS.size):=eA;have HZ1:Hid (eS.all (·.oneCell')=true):=gO [];have h0:w.heap.size≠w2.heap.size:=Nat.ne_of_lt HLT.out;clear hb HRS HCO HXC HSS HBACK HSC HKL HB1 KX HB2 he;go_wp2_with (first|(refine dR rfl 30 _ _ rfl w2.heap.size rfl eS rfl HNEW.out HZS.out rfl HZ1.out ?_;intro w3 k3 b3 o3 _;have HK3:=Hd k3;have HB3:=Hd (HB2a.out.trans (b3 _ (Nat.le_of_lt HLT.out)));have KX3:=Hd (o3 _ _ _ h0 KX2.out);clear k3 b3 o3)|(refine wpList_load_row rfl 30 _ rfl w.heap.size rfl 30 fc (0,0) _ KX3.out.2 Tryz.underlying30 rfl HSZ.out ?_));refine(HCH.out _ HB3.out).mono ?_;rintro e w4 ⟨rfl,hb⟩;have HK4:=Hd (HK3.out.below hb);have HB4:=Hd (aA HB3.out hb);clear hb HCH HB3 HK3 KX3;go_wp2_with (refine wpList_load_row rfl 30 _ rfl w2.heap.size rfl 30 eS (0,0) _ HK4.out.2 Tryz.underlying30 rfl HZS.out ?_);refine(HSZZ.out _).mono ?_;rintro e w5 ⟨rfl,hb⟩;have HB5:=Hd (aA HB4.out hb);clear hb;go_wp2_with fail;refine(HAW.out _ HB5.out).mono ?_;rintro e w6 ⟨rfl,hb⟩;go_wp2;go_ret;exact⟨rfl,aA HB5.out hb⟩
  ·subst he;subst hcv;have hlt:=HKL.out k o ho;obtain⟨b,off,hoa,hcells⟩:=HSC.out k o ho;have HO:=Hd ho;have HCE:=Hd hcells;have HC0:=Hd (HCO.out rfl k o g);have HX0C:=Hd (HXC.out rfl k o g);have HBK:=Hd (HBACK.out o g);have HXS:Hid ((Tryz.prog.info? 30).map (·.size)=some (fU x o g).arr.size):=eA;have HXZ:Hid (eS.size=(fU x o g).arr.size):=rfl;have HX1:=Hd (dV (fU x o g));have HX19:Hid ((fU x o g).arr[19]?=some (.slice (some ⟨g,0,none⟩) 1 1)):=rfl;have HKO2:=Hd (hko.below (aB w2 (.cells eS 30)));have hgl:g<w2.heap.size:=hko.1;have h0:w.heap.size≠w2.heap.size:=Nat.ne_of_lt HLT.out;have h1:g≠w2.heap.size:=by omega
   rw[hoa] at HX0 HBK;clear hb HRS HCO HXC HBACK HSC HKL HB1 KX HB2 ho hcells hko hoa HSZZ;generalize(fU x o g).arr=xc at *;go_wp2_with (first|(refine dR rfl 30 _ _ rfl w2.heap.size rfl xc rfl HNEW.out HXS.out HXZ.out HX1.out ?_;intro w3 k3 b3 o3 _;have HK3:=Hd k3;have HB3:=Hd (HB2a.out.trans (b3 _ (Nat.le_of_lt HLT.out)));have KX3:=Hd (o3 _ _ _ h0 KX2.out);have HKO3:=Hd (o3 _ _ _ h1 HKO2.out);clear k3 b3 o3)|(refine wpList_load_row rfl 30 _ rfl w.heap.size rfl 30 fc (0,0) _ KX3.out.2 Tryz.underlying30 rfl HSZ.out ?_));refine(HCH.out _ HB3.out).mono ?_;rintro e w4 ⟨rfl,hb⟩;have HK4:=Hd (HK3.out.below hb);have KX4:=Hd (KX3.out.below hb);have HKO4:=Hd (HKO3.out.below hb);have HB4:=Hd (aA HB3.out hb);clear hb HCH HB3 HK3 KX3 HKO3 KX2 HKO2;go_wp2_with fail;refine Ps (C:=⟨w4.drewN 1,w.heap.size,w2.heap.size,b,off,ol,x.oc,k,g,fc,xc,o.cells.toArray⟩) ⟨rfl,rfl,rfl,rfl,hlt,KX4.out,HK4.out,HX0.out.2,HX19.out,HKO4.out,fun W hb=>HCE.out W (HB4.out.trans (((aD (Br _ w4) 1).trans hb).mono HB4.out.size)),yE o,HXS.out,Oc o,Zh o,fun W hb=>HX0C.out W HO.out (HB4.out.trans (((aD (Br _ w4) 1).trans hb).mono HB4.out.size)) (HKO4.out.below ((aD (Br _ w4) 1).trans hb))⟩ rfl rfl rfl ?_;intro w5 hb;have hb:=(aD (Br w4.heap.size w4) 1).trans hb;have HK5:=Hd (HK4.out.below hb);have KX5:=Hd (KX4.out.below hb);have HKO5:=Hd (HKO4.out.below hb);have HB5:=Hd (aA HB4.out hb);clear hb HX0C HCE HK4 KX4 HKO4 HB4;simp only[iZ,Xe,List.foldl,List.setIfInBounds_toArray,List.set_cons_zero,List.set_cons_succ,RsC.val];have K5a:=HK5.out.below (aB w5 (.cells eS 30));have KXa:=KX5.out.below (aB w5 (.cells eS 30));have KOa:=HKO5.out.below (aB w5 (.cells eS 30));have HK5a:=Hd K5a;have HKXa:=Hd KXa;have HKOa:=Hd KOa;have HN5:=Hd (heap_alloc_new w5 (.cells eS 30));have HB5a:=Hd (aA HB5.out (aB w5 (.cells eS 30)));have l1:w.heap.size≠w5.heap.size:=Nat.ne_of_lt KX5.out.1;have l2:w2.heap.size≠w5.heap.size:=Nat.ne_of_lt HK5.out.1;have l3:g≠w5.heap.size:=Nat.ne_of_lt HKO5.out.1;have HLE:Hid (w.heap.size≤w5.heap.size):=HB5.out.size;clear K5a KXa KOa KX5 HKO5 HB5;go_wp2_with (first|(refine wpList_load_row rfl 30 _ rfl w2.heap.size rfl 30 xc (0,0) _ HK5.out.2 Tryz.underlying30 rfl HXS.out ?_;simp only[pS])|(refine dR rfl 30 _ _ rfl w5.heap.size rfl xc rfl HN5.out HXS.out HXZ.out HX1.out ?_;intro w6 k6 b6 o6 _;have c19:=((o6 _ _ _ l1 HKXa.out).cell 19).trans HX0.out.2;have f19:=aR k6.2 19;have d19:=(k6.cell 19).trans HX19.out;have K6:=Hd k6;have KX6:=Hd (o6 _ _ _ l1 HKXa.out);have K56:=Hd (o6 _ _ _ l2 HK5a.out);have KO6:=Hd (o6 _ _ _ l3 HKOa.out);have HB6:=Hd (HB5a.out.trans (b6 _ HLE.out));have K5s:Hid (aP (w6.setCell ⟨w5.heap.size,19,none⟩ (.slice (some ⟨b,off,none⟩) ol x.oc)) w2.heap.size xc 30):=iN K56.out l2;clear k6 b6 o6)|(refine wpList_load_row rfl 30 _ rfl w2.heap.size rfl 30 xc (0,0) _ K5s.out.2 Tryz.underlying30 rfl HXS.out ?_));have KXs:=iN (p:=⟨w5.heap.size,19,none⟩) (v:=.slice (some ⟨b,off,none⟩) ol x.oc) KX6.out l1;have KOs:=iN (p:=⟨w5.heap.size,19,none⟩) (v:=.slice (some ⟨b,off,none⟩) ol x.oc) KO6.out l3;have KYs:=oF (i:=19) (v:=.slice (some ⟨b,off,none⟩) ol x.oc) K6.out;rw[HBK.out] at KYs;have HBs:=HB6.out.setCell (p:=⟨w5.heap.size,19,none⟩) HLE.out (.slice (some ⟨b,off,none⟩) ol x.oc);refine(HC0.out _ HO.out HBs KOs).mono ?_;rintro e w7 ⟨rfl,hb⟩;have KX7:=Hd (KXs.below hb);have KY7:=Hd (KYs.below hb);have HB7:=Hd (aA HBs hb);clear hb KXs KYs KOs HBs K6 KX6 K56 KO6 HB6 K5s c19 f19 d19 HC0;go_wp2_with (first|(refine gV (by rfl) 30 _ rfl w5.heap.size rfl 30 fc (0,0) _ KY7.out.2 Tryz.underlying30 rfl HSZ.out ?_)|(refine gV (by rfl) 30 _ rfl w.heap.size rfl 30 fc (0,0) _ KX7.out.2 Tryz.underlying30 rfl HSZ.out ?_));refine(HSS.out _ HB7.out).mono ?_;rintro e w8 ⟨rfl,hb⟩;have HB8:=Hd (aA HB7.out hb);clear hb;go_wp2_with fail;refine(HAW.out _ HB8.out).mono ?_;rintro e w9 ⟨rfl,hb⟩;go_wp2;go_ret;exact⟨rfl,aA HB8.out hb⟩
end
end Go.Proofs.YtbcebibkpfklnaaGreatDoor
