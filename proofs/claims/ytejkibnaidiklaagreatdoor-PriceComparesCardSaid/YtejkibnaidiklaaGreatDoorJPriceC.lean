/- Fine17 Awake17 Awake17W -/
import Derived.Test.YtejkibnaidiklaaGreatDoorJElectionA
import Derived.Test.YtejkibnaidiklaaGreatDoorJRowF
import Derived.Test.YtejkibnaidiklaaGreatDoorJPriceB
set_option maxHeartbeats 16000000
set_option maxRecDepth 100000
namespace Go.Proofs.YtejkibnaidiklaaGreatDoor
open Go.Proofs.Tryz
section
open Go Go.RowKit Num
theorem aQw(xs:List aF)(a:Option Addr)(c:Nat)(w:World)(hn:xs.length<=9223372036854775807)(hr:fS w a xs)(hf:∀x,x∈xs->x.fits):
  Calls prog 27 #[.slice a xs.length c] w fun e w'=>uK ((∀x,x∈xs->x.f.tight)/\(xs.length<=12∨1000<xs.length/\xs.length<=1003)) e/\Below w.heap.size w w':=by
 have HG:=Hd (Bp xs a c w hn hr hf);clear hr hf hn;generalize((∀x,x∈xs->x.f.tight)/\(xs.length<=12∨1000<xs.length/\xs.length<=1003))=P at *;generalize xs.length=n at *;go_enter func27,ntmps27;go_wp2_with fail;refine HG.out.mono ?_;rintro e w1 ⟨⟨g,rfl,hg⟩,hb⟩;have HB1:=Hd hb;have HGG:=Hd hg;clear hg hb HG;go_wp2;go_ret;exact⟨⟨_,rfl,HGG.out⟩,HB1.out⟩
end
section
open Go Go.RowKit Num Dt
theorem bW{ops:Array Oper}{a:Act}{i j s:Nat}(hgd:(ops[i]?).map (·.guard)=some (some (j,true)))(hj:(ops[j]?).bind (·.dst)=some s)(hv:a.tmps[s]?=some (.bool true)):∀o,ops[i]?=some o->Region.wanted o (yielded ops a.tmps)=true:=fun o ho=>by
 rw[nL hgd rfl hj hv o ho];rfl
def pxF(key:List UInt8)(d:Int)(n m:List UInt8):aE:=⟨key,0,false,d,15,[97,98,99],[],[],[],[],[],[],⟨n,m⟩,⟨[],[]⟩,⟨[],[]⟩,[],[],0⟩
def pxV(key:List UInt8)(d:Int)(n m:List UInt8):aF:=⟨pxF key d n m,none,0,none,0⟩
def pxs:List aF:=[pxV [112,49] 19724 [49,48] [],pxV [112,50] 19732 [50,53] [50]]
def pfs:List aE:=[pxF [112,49] 19724 [49,48] [],pxF [112,50] 19732 [50,53] [50]]
theorem aSm:pxs.map aF.f=pfs:=rfl
theorem aTm(key:List UInt8)(d:Int)(n m:List UInt8)(h:key.length<=1000)(hn:n.length<=60)(hm:m.length<=60):(pxV key d n m).ok:=by
 have z:bZ.small ⟨[],[]⟩:=⟨by decide,by decide⟩
 refine⟨⟨h,by show 3<=1000;decide,by show 0<=1000;decide,by show 0<=1000;decide,by show 0<=1000;decide,by show 0<=60;decide,by show 0<=60;decide,by show 0<=60;decide,⟨hn,hm⟩,z,z,by show 0<=1000;decide,fun p hp=>(by cases hp),by show 0<=1000;decide,fun o ho=>(by cases ho)⟩,Nl _⟩
theorem aS4{w:World}{B:Nat}(h:aP w B ((pxV [112,49] 19724 [49,48] []).arr++(pxV [112,50] 19732 [50,53] [50]).arr) 59):gT w (some ⟨B,0,none⟩) 2 pxs:=by
 refine⟨⟨oY (by decide) Fa (.inr ⟨B,0,rfl,h.1,fun j v hv=>?_⟩),fun z hz=>?_⟩,fun z hz=>?_,by decide⟩
 ·rw[Nat.zero_add,h.cell j,<-hv,<-Array.getElem?_toList];simp[aF.cells,pxs]
 ·rcases List.mem_cons.1 hz with rfl|hz
  ·exact⟨.inl rfl,.inl rfl⟩
  ·rw[List.mem_singleton] at hz;subst hz;exact⟨.inl rfl,.inl rfl⟩
 ·rcases List.mem_cons.1 hz with rfl|hz
  ·exact aTm _ _ _ _ (by decide) (by decide) (by decide)
  ·rw[List.mem_singleton] at hz;subst hz;exact aTm _ _ _ _ (by decide) (by decide) (by decide)
theorem aS3(w:World):(Instr.buildSlice 22 2 #[(0,.agg (pxV [112,49] 19724 [49,48] []).arr),(1,.agg (pxV [112,50] 19732 [50,53] [50]).arr)]).run prog w=.ok (.slice (some ⟨w.heap.size,0,none⟩) 2 2) (w.alloc (.cells ((pxV [112,49] 19724 [49,48] []).arr++(pxV [112,50] 19732 [50,53] [50]).arr) 59)):=by
 unfold aF.arr aE.cells;simp[go_sem]
theorem aP6(n:Int)(w:World)(h1:1<=n)(h2:n<=31):
  Calls prog 48 #[.int .i64 n] w fun e w'=>e=.returned (.int .i64 (19722+n))/\Below w.heap.size w w':=by
 have HO:=Hd (aPd 2024 1 n w ⟨by decide,by decide,by decide,by decide,h1,by rw[show Cal.dim 2024 1=31 from by decide];exact h2⟩);have e:Cal.num 2024 1 n-25567=19722+n:=by unfold Cal.num;rw[show Cal.dby 2024=45290 from by decide,show Cal.cum 2024 1=0 from by decide];omega
 rw[e] at HO;clear e;generalize 19722+n=dn at *;go_enter func48,ntmps48;go_wp2_with fail;refine HO.out.mono ?_;rintro e w1 ⟨rfl,hb⟩;have HB:=Hd hb;clear hb HO;go_wp2;go_ret;exact⟨rfl,HB.out⟩
noncomputable def aS9:Array Oper:=(Tryz.f12.body.bind (jE 6)).getD #[]
def aSq:List (Nat×Nat):=[(0,38),(1,39),(2,40),(3,41),(4,42),(5,43),(6,44),(7,45),(8,46),(9,47),(10,48),(11,49),(12,50),(13,51),(14,52),(15,53),(16,54),(17,55),(18,56),(19,57),(20,58),(21,59),(22,60),(23,61),(24,62),(25,63),(26,64),(27,65),(28,66),(29,67),(30,68),(31,69),(32,70),(33,71),(34,72),(35,73),(36,74),(37,75),(38,76),(39,77),(40,0)]
structure aSl where
 W0:World
 b1:Nat
 b4:Nat
 b8:Nat
 b10:Nat
def aSl.val(C:aSl)(_:Unit):Nat->Value
 |0=>.int .i64 0
 |1=>.int .i64 0
 |2=>.int .i64 0
 |3=>.int .i64 0
 |4=>.bool true
 |5=>.bool true
 |6=>.int .i64 17
 |7=>.bool true
 |8=>.bool true
 |9=>.bool true
 |10=>.bool true
 |11=>.bool true
 |12=>.bool true
 |13=>.agg #[.int .i64 19724,.string ⟨#[49,48]⟩,.string ⟨#[]⟩]
 |14=>.int .i64 19724
 |15=>.agg #[.string ⟨#[49,48]⟩,.string ⟨#[]⟩]
 |16=>.agg #[.int .i64 19724,.string ⟨#[49,48]⟩,.string ⟨#[]⟩]
 |17=>.bool true
 |18=>.bool true
 |19=>.bool true
 |20=>.agg #[.string ⟨#[49,48]⟩,.string ⟨#[]⟩]
 |21=>.pointer (some ⟨C.b1,1,none⟩)
 |22=>.agg #[.string ⟨#[49,48]⟩,.string ⟨#[]⟩]
 |23=>.bool true
 |24=>.bool true
 |25=>.bool true
 |26=>.agg #[.string ⟨#[53]⟩,.string ⟨#[52]⟩]
 |27=>.agg #[.string ⟨#[53]⟩,.string ⟨#[52]⟩]
 |28=>.bool true
 |29=>.bool true
 |30=>.bool true
 |31=>.agg #[.string ⟨#[50,53]⟩,.string ⟨#[50]⟩]
 |32=>.string ⟨#[51,56]⟩
 |33=>.bool true
 |34=>.bool true
 |35=>.bool true
 |36=>.agg #[.string ⟨#[50,53]⟩,.string ⟨#[50]⟩]
 |37=>.string ⟨#[49,50]⟩
 |38=>.bool true
 |39=>.bool true
 |_=>.bool true
def aSl.gg(C:aSl)(_:Unit)(_:Array Bool)(W:World):Prop:=Below C.W0.heap.size C.W0 W
structure aT1(C:aSl)(t0:Array Value):Prop where
 sz:t0.size=78
 t1:t0[1]?=some (.pointer (some ⟨C.b1,0,none⟩))
 t2:t0[2]?=some (.bool true)
 t3:t0[3]?=some (.int .i64 0)
 t4:t0[4]?=some (.pointer (some ⟨C.b4,0,none⟩))
 t5:t0[5]?=some (.int .i64 0)
 t7:t0[7]?=some (.int .i64 17)
 t8:t0[8]?=some (.pointer (some ⟨C.b8,0,none⟩))
 t9:t0[9]?=some (.int .i64 0)
 t10:t0[10]?=some (.pointer (some ⟨C.b10,0,none⟩))
 kq:aP C.W0 C.b1 #[.int .i64 19724,.string ⟨#[49,48]⟩,.string ⟨#[]⟩] 46
 k4:aP C.W0 C.b4 #[.string ⟨#[49,48]⟩,.string ⟨#[]⟩] 28
 k8:aP C.W0 C.b8 #[.string ⟨#[53]⟩,.string ⟨#[52]⟩] 28
 k10:aP C.W0 C.b10 #[.string ⟨#[50,53]⟩,.string ⟨#[50]⟩] 28
 day:∀W,Below C.W0.heap.size C.W0 W->Calls prog 48 #[.int .i64 2] W fun e w'=>e=.returned (.int .i64 19724)/\Below W.heap.size W w'
 v3:∀W,Below C.W0.heap.size C.W0 W->Calls prog 18 #[.agg #[.string ⟨#[50,53]⟩,.string ⟨#[50]⟩],.string ⟨#[51]⟩] W fun e w'=>e=.returned (.string ⟨#[51,56]⟩)/\Below W.heap.size W w'
 v1:∀W,Below C.W0.heap.size C.W0 W->Calls prog 18 #[.agg #[.string ⟨#[50,53]⟩,.string ⟨#[50]⟩],.string ⟨#[49]⟩] W fun e w'=>e=.returned (.string ⟨#[49,50]⟩)/\Below W.heap.size W w'
section
variable {C:aSl}{t0:Array Value}{Q:Exit->Act->World->Prop}
theorem aSf(M:aT1 C t0){a:Act}{w:World}(hdf:a.defers=[])(ht:a.tmps=t0)(hw:w.drewN 1=C.W0)
  (hQ:∀W,Below C.W0.heap.size C.W0 W->Q .normal { tmps:=iZ (C.val ()) aSq t0,defers:=[] } W):(Code.region 6 aS9 true).wp prog Q a w:=by
 have hsz:aS9.size=41:=by kernel_rfl
 refine eV (ds:=aSq) (val:=C.val) (G:=C.gg) (by kernel_rfl) (by kernel_rfl) (by decide) (fun p hp=>?_) (by kernel_rfl) ?_ (γ:=()) hdf ht (by rw[hw];exact Br _ _) (fun _ _ W _ hg=>hQ W hg)
 ·rw[M.sz];have:∀p,p∈aSq->p.2<78:=by decide
  exact this p hp
 ·intro γ l a w i H hr;cases γ;have hi:i<41:=by
   obtain⟨_,o,ho,_⟩:=mem_ready.1 hr;have:=(Ai.1 ho).1;rw[hsz] at this;exact this
  have t1:=H.low (s:=1) (by decide) M.t1;have t2:=H.low (s:=2) (by decide) M.t2;have t3:=H.low (s:=3) (by decide) M.t3;have t4:=H.low (s:=4) (by decide) M.t4;have t5:=H.low (s:=5) (by decide) M.t5;have t7:=H.low (s:=7) (by decide) M.t7;have t8:=H.low (s:=8) (by decide) M.t8;have t9:=H.low (s:=9) (by decide) M.t9;have t10:=H.low (s:=10) (by decide) M.t10;have hb:Below C.W0.heap.size C.W0 w:=H.g
  match i,hi,hr with
  |0,_,hr =>
   exact aWj (.move (.tmp 3)) (.int .i64 0) (fun o h=>by simp[execOp,h,t3,go_sem]) hb
  |1,_,hr =>
   exact aWj (.move (.tmp 5)) (.int .i64 0) (fun o h=>by simp[execOp,h,t5,go_sem]) hb
  |2,_,hr =>
   exact aWj (.move (.tmp 9)) (.int .i64 0) (fun o h=>by simp[execOp,h,t9,go_sem]) hb
  |3,_,hr =>
   have v0:a.tmps[38]?=some (.int .i64 0):=H.dep hr 0 38;have v1:a.tmps[39]?=some (.int .i64 0):=H.dep hr 1 39;have v2:a.tmps[40]?=some (.int .i64 0):=H.dep hr 2 40;exact aWj (.call { callee:=.builtin .max,args:=#[.tmp 38,.tmp 39,.tmp 40],argTypes:=#[29,29,29] }) (.int .i64 0) (fun o h=>by simp[execOp,h,v0,v1,v2,go_sem]) hb
  |4,_,hr =>
   have v3:a.tmps[41]?=some (.int .i64 0):=H.dep hr 3 41;exact aWj (.binOp .eql 29 (.tmp 41) (.const (.int .i64 0)) 29) (.bool true) (fun o h=>by simp[execOp,h,v3,go_sem]) hb
  |5,_,hr =>
   have v4:a.tmps[42]?=some (.bool true):=H.dep hr 4 42;exact aWj (.move (.tmp 42)) (.bool true) (fun o h=>by simp[execOp,h,v4,go_sem]) hb
  |6,_,hr =>
   have hon:a.tmps[43]?=some (.bool true):=H.dep hr 5 43;exact bA (X:=.move (.tmp 7)) (v:=.int .i64 17) (by kernel_rfl) (bW (i:=6) (j:=5) (s:=43) (by kernel_rfl) (by kernel_rfl) hon) (fun o h=>by simp[execOp,h,t7,go_sem]) rfl hb
  |7,_,hr =>
   have v6:a.tmps[44]?=some (.int .i64 17):=H.dep hr 6 44;have hon:a.tmps[43]?=some (.bool true):=H.dep hr 5 43;exact bA (X:=.binOp .eql 29 (.tmp 44) (.const (.int .i64 17)) 29) (v:=.bool true) (by kernel_rfl) (bW (i:=7) (j:=5) (s:=43) (by kernel_rfl) (by kernel_rfl) hon) (fun o h=>by simp[execOp,h,v6,go_sem]) rfl hb
  |8,_,hr =>
   have v5:a.tmps[43]?=some (.bool true):=H.dep hr 5 43;have v7:a.tmps[45]?=some (.bool true):=H.dep hr 7 45;exact aWj (.pick (.tmp 43) (.tmp 45) (.const (.bool false))) (.bool true) (fun o h=>by simp[execOp,h,v5,v7,go_sem]) hb
  |9,_,hr =>
   have v8:a.tmps[46]?=some (.bool true):=H.dep hr 8 46;exact aWj (.move (.tmp 46)) (.bool true) (fun o h=>by simp[execOp,h,v8,go_sem]) hb
  |10,_,hr =>
   have hon:a.tmps[47]?=some (.bool true):=H.dep hr 9 47;exact bA (X:=.move (.tmp 2)) (v:=.bool true) (by kernel_rfl) (bW (i:=10) (j:=9) (s:=47) (by kernel_rfl) (by kernel_rfl) hon) (fun o h=>by simp[execOp,h,t2,go_sem]) rfl hb
  |11,_,hr =>
   have v9:a.tmps[47]?=some (.bool true):=H.dep hr 9 47;have v10:a.tmps[48]?=some (.bool true):=H.dep hr 10 48;exact aWj (.pick (.tmp 47) (.tmp 48) (.const (.bool false))) (.bool true) (fun o h=>by simp[execOp,h,v9,v10,go_sem]) hb
  |12,_,hr =>
   have v11:a.tmps[49]?=some (.bool true):=H.dep hr 11 49;exact aWj (.move (.tmp 49)) (.bool true) (fun o h=>by simp[execOp,h,v11,go_sem]) hb
  |13,_,hr =>
   have hon:a.tmps[50]?=some (.bool true):=H.dep hr 12 50;exact bA (X:=.load 46 (.tmp 1)) (v:=.agg #[.int .i64 19724,.string ⟨#[49,48]⟩,.string ⟨#[]⟩]) (by kernel_rfl) (bW (i:=13) (j:=12) (s:=50) (by kernel_rfl) (by kernel_rfl) hon) (fun o h=>by exact aW h (oC t1) (gR (M.kq.below hb)) underlying46 rfl aPm) rfl hb
  |14,_,hr =>
   have hon:a.tmps[50]?=some (.bool true):=H.dep hr 12 50;refine mX (f:=48) (lb:=#[]) (c:=.func 48) (args:=#[.const (.int .i64 2)]) (ts:=#[3]) (vs:=#[.int .i64 2]) (by kernel_rfl) (bW (i:=14) (j:=12) (s:=50) (by kernel_rfl) (by kernel_rfl) hon) rfl (aXb func48) (by simp[Act.eval]) ((M.day w hb).mono ?_);rintro e w' ⟨rfl,hb'⟩;exact⟨_,(),rfl,rfl,fun _ _=>rfl,aA hb hb'⟩
  |15,_,hr =>
   have hon:a.tmps[50]?=some (.bool true):=H.dep hr 12 50;exact bA (X:=.build 28 #[(0,.const (.string ⟨#[49,48]⟩))]) (v:=.agg #[.string ⟨#[49,48]⟩,.string ⟨#[]⟩]) (by kernel_rfl) (bW (i:=15) (j:=12) (s:=50) (by kernel_rfl) (by kernel_rfl) hon) (fun o h=>by simp[execOp,h,go_sem]) rfl hb
  |16,_,hr =>
   have v14:a.tmps[52]?=some (.int .i64 19724):=H.dep hr 14 52;have v15:a.tmps[53]?=some (.agg #[.string ⟨#[49,48]⟩,.string ⟨#[]⟩]):=H.dep hr 15 53;have hon:a.tmps[50]?=some (.bool true):=H.dep hr 12 50;exact bA (X:=.build 46 #[(0,.tmp 52),(1,.tmp 53)]) (v:=.agg #[.int .i64 19724,.string ⟨#[49,48]⟩,.string ⟨#[]⟩]) (by kernel_rfl) (bW (i:=16) (j:=12) (s:=50) (by kernel_rfl) (by kernel_rfl) hon) (fun o h=>by simp[execOp,h,v14,v15,go_sem]) rfl hb
  |17,_,hr =>
   have v13:a.tmps[51]?=some (.agg #[.int .i64 19724,.string ⟨#[49,48]⟩,.string ⟨#[]⟩]):=H.dep hr 13 51;have v16:a.tmps[54]?=some (.agg #[.int .i64 19724,.string ⟨#[49,48]⟩,.string ⟨#[]⟩]):=H.dep hr 16 54;have hon:a.tmps[50]?=some (.bool true):=H.dep hr 12 50;exact bA (X:=.binOp .eql 46 (.tmp 51) (.tmp 54) 46) (v:=.bool true) (by kernel_rfl) (bW (i:=17) (j:=12) (s:=50) (by kernel_rfl) (by kernel_rfl) hon) (fun o h=>by have e1:(eqGuard .eql 46 (.tmp 51) (.tmp 54) (.agg #[.int .i64 19724,.string ⟨#[49,48]⟩,.string ⟨#[]⟩]) (.agg #[.int .i64 19724,.string ⟨#[49,48]⟩,.string ⟨#[]⟩])).run prog w=.ok () w:=(by simp[go_sem,eqGuard]);exact Dl h (oC v13) (oC v16) e1 (by kernel_rfl)) rfl hb
  |18,_,hr =>
   have v12:a.tmps[50]?=some (.bool true):=H.dep hr 12 50;have v17:a.tmps[55]?=some (.bool true):=H.dep hr 17 55;exact aWj (.pick (.tmp 50) (.tmp 55) (.const (.bool false))) (.bool true) (fun o h=>by simp[execOp,h,v12,v17,go_sem]) hb
  |19,_,hr =>
   have v18:a.tmps[56]?=some (.bool true):=H.dep hr 18 56;exact aWj (.move (.tmp 56)) (.bool true) (fun o h=>by simp[execOp,h,v18,go_sem]) hb
  |20,_,hr =>
   have hon:a.tmps[57]?=some (.bool true):=H.dep hr 19 57;exact bA (X:=.load 28 (.tmp 4)) (v:=.agg #[.string ⟨#[49,48]⟩,.string ⟨#[]⟩]) (by kernel_rfl) (bW (i:=20) (j:=19) (s:=57) (by kernel_rfl) (by kernel_rfl) hon) (fun o h=>by exact aW h (oC t4) (gR (M.k4.below hb)) underlying28 rfl aPp) rfl hb
  |21,_,hr =>
   have hon:a.tmps[57]?=some (.bool true):=H.dep hr 19 57;exact bA (X:=.fieldAddr 46 (.tmp 1) 1) (v:=.pointer (some ⟨C.b1,1,none⟩)) (by kernel_rfl) (bW (i:=21) (j:=19) (s:=57) (by kernel_rfl) (by kernel_rfl) hon) (fun o h=>by simp[execOp,h,t1,go_sem]) rfl hb
  |22,_,hr =>
   have v21:a.tmps[59]?=some (.pointer (some ⟨C.b1,1,none⟩)):=H.dep hr 21 59;have c1:=(M.kq.below hb).cell 1;have c2:=(M.kq.below hb).cell 2;have hon:a.tmps[57]?=some (.bool true):=H.dep hr 19 57;exact bA (X:=.load 28 (.tmp 59)) (v:=.agg #[.string ⟨#[49,48]⟩,.string ⟨#[]⟩]) (by kernel_rfl) (bW (i:=22) (j:=19) (s:=57) (by kernel_rfl) (by kernel_rfl) hon) (fun o h=>by simp[execOp,h,v21,c1,c2,go_sem]) rfl hb
  |23,_,hr =>
   have v20:a.tmps[58]?=some (.agg #[.string ⟨#[49,48]⟩,.string ⟨#[]⟩]):=H.dep hr 20 58;have v22:a.tmps[60]?=some (.agg #[.string ⟨#[49,48]⟩,.string ⟨#[]⟩]):=H.dep hr 22 60;have hon:a.tmps[57]?=some (.bool true):=H.dep hr 19 57;exact bA (X:=.binOp .eql 28 (.tmp 58) (.tmp 60) 28) (v:=.bool true) (by kernel_rfl) (bW (i:=23) (j:=19) (s:=57) (by kernel_rfl) (by kernel_rfl) hon) (fun o h=>by have e1:(eqGuard .eql 28 (.tmp 58) (.tmp 60) (.agg #[.string ⟨#[49,48]⟩,.string ⟨#[]⟩]) (.agg #[.string ⟨#[49,48]⟩,.string ⟨#[]⟩])).run prog w=.ok () w:=(by simp[go_sem,eqGuard]);exact Dl h (oC v20) (oC v22) e1 (by kernel_rfl)) rfl hb
  |24,_,hr =>
   have v19:a.tmps[57]?=some (.bool true):=H.dep hr 19 57;have v23:a.tmps[61]?=some (.bool true):=H.dep hr 23 61;exact aWj (.pick (.tmp 57) (.tmp 61) (.const (.bool false))) (.bool true) (fun o h=>by simp[execOp,h,v19,v23,go_sem]) hb
  |25,_,hr =>
   have v24:a.tmps[62]?=some (.bool true):=H.dep hr 24 62;exact aWj (.move (.tmp 62)) (.bool true) (fun o h=>by simp[execOp,h,v24,go_sem]) hb
  |26,_,hr =>
   have hon:a.tmps[63]?=some (.bool true):=H.dep hr 25 63;exact bA (X:=.load 28 (.tmp 8)) (v:=.agg #[.string ⟨#[53]⟩,.string ⟨#[52]⟩]) (by kernel_rfl) (bW (i:=26) (j:=25) (s:=63) (by kernel_rfl) (by kernel_rfl) hon) (fun o h=>by exact aW h (oC t8) (gR (M.k8.below hb)) underlying28 rfl aPp) rfl hb
  |27,_,hr =>
   have hon:a.tmps[63]?=some (.bool true):=H.dep hr 25 63;exact bA (X:=.build 28 #[(0,.const (.string ⟨#[53]⟩)),(1,.const (.string ⟨#[52]⟩))]) (v:=.agg #[.string ⟨#[53]⟩,.string ⟨#[52]⟩]) (by kernel_rfl) (bW (i:=27) (j:=25) (s:=63) (by kernel_rfl) (by kernel_rfl) hon) (fun o h=>by simp[execOp,h,go_sem]) rfl hb
  |28,_,hr =>
   have v26:a.tmps[64]?=some (.agg #[.string ⟨#[53]⟩,.string ⟨#[52]⟩]):=H.dep hr 26 64;have v27:a.tmps[65]?=some (.agg #[.string ⟨#[53]⟩,.string ⟨#[52]⟩]):=H.dep hr 27 65;have hon:a.tmps[63]?=some (.bool true):=H.dep hr 25 63;exact bA (X:=.binOp .eql 28 (.tmp 64) (.tmp 65) 28) (v:=.bool true) (by kernel_rfl) (bW (i:=28) (j:=25) (s:=63) (by kernel_rfl) (by kernel_rfl) hon) (fun o h=>by have e1:(eqGuard .eql 28 (.tmp 64) (.tmp 65) (.agg #[.string ⟨#[53]⟩,.string ⟨#[52]⟩]) (.agg #[.string ⟨#[53]⟩,.string ⟨#[52]⟩])).run prog w=.ok () w:=(by simp[go_sem,eqGuard]);exact Dl h (oC v26) (oC v27) e1 (by kernel_rfl)) rfl hb
  |29,_,hr =>
   have v25:a.tmps[63]?=some (.bool true):=H.dep hr 25 63;have v28:a.tmps[66]?=some (.bool true):=H.dep hr 28 66;exact aWj (.pick (.tmp 63) (.tmp 66) (.const (.bool false))) (.bool true) (fun o h=>by simp[execOp,h,v25,v28,go_sem]) hb
  |30,_,hr =>
   have v29:a.tmps[67]?=some (.bool true):=H.dep hr 29 67;exact aWj (.move (.tmp 67)) (.bool true) (fun o h=>by simp[execOp,h,v29,go_sem]) hb
  |31,_,hr =>
   have hon:a.tmps[68]?=some (.bool true):=H.dep hr 30 68;exact bA (X:=.load 28 (.tmp 10)) (v:=.agg #[.string ⟨#[50,53]⟩,.string ⟨#[50]⟩]) (by kernel_rfl) (bW (i:=31) (j:=30) (s:=68) (by kernel_rfl) (by kernel_rfl) hon) (fun o h=>by exact aW h (oC t10) (gR (M.k10.below hb)) underlying28 rfl aPp) rfl hb
  |32,_,hr =>
   have v31:a.tmps[69]?=some (.agg #[.string ⟨#[50,53]⟩,.string ⟨#[50]⟩]):=H.dep hr 31 69;have hon:a.tmps[68]?=some (.bool true):=H.dep hr 30 68;refine mX (f:=18) (lb:=#[]) (c:=.func 18) (args:=#[.tmp 69,.const (.string ⟨#[51]⟩)]) (ts:=#[28,26]) (vs:=#[.agg #[.string ⟨#[50,53]⟩,.string ⟨#[50]⟩],.string ⟨#[51]⟩]) (by kernel_rfl) (bW (i:=32) (j:=30) (s:=68) (by kernel_rfl) (by kernel_rfl) hon) rfl (aXb func18) (by simp[Act.eval,v31]) ((M.v3 w hb).mono ?_);rintro e w' ⟨rfl,hb'⟩;exact⟨_,(),rfl,rfl,fun _ _=>rfl,aA hb hb'⟩
  |33,_,hr =>
   have v32:a.tmps[70]?=some (.string ⟨#[51,56]⟩):=H.dep hr 32 70;have hon:a.tmps[68]?=some (.bool true):=H.dep hr 30 68;exact bA (X:=.binOp .eql 26 (.tmp 70) (.const (.string ⟨#[51,56]⟩)) 26) (v:=.bool true) (by kernel_rfl) (bW (i:=33) (j:=30) (s:=68) (by kernel_rfl) (by kernel_rfl) hon) (fun o h=>by simp[execOp,h,v32,go_sem]) rfl hb
  |34,_,hr =>
   have v30:a.tmps[68]?=some (.bool true):=H.dep hr 30 68;have v33:a.tmps[71]?=some (.bool true):=H.dep hr 33 71;exact aWj (.pick (.tmp 68) (.tmp 71) (.const (.bool false))) (.bool true) (fun o h=>by simp[execOp,h,v30,v33,go_sem]) hb
  |35,_,hr =>
   have v34:a.tmps[72]?=some (.bool true):=H.dep hr 34 72;exact aWj (.move (.tmp 72)) (.bool true) (fun o h=>by simp[execOp,h,v34,go_sem]) hb
  |36,_,hr =>
   have hon:a.tmps[73]?=some (.bool true):=H.dep hr 35 73;exact bA (X:=.load 28 (.tmp 10)) (v:=.agg #[.string ⟨#[50,53]⟩,.string ⟨#[50]⟩]) (by kernel_rfl) (bW (i:=36) (j:=35) (s:=73) (by kernel_rfl) (by kernel_rfl) hon) (fun o h=>by exact aW h (oC t10) (gR (M.k10.below hb)) underlying28 rfl aPp) rfl hb
  |37,_,hr =>
   have v36:a.tmps[74]?=some (.agg #[.string ⟨#[50,53]⟩,.string ⟨#[50]⟩]):=H.dep hr 36 74;have hon:a.tmps[73]?=some (.bool true):=H.dep hr 35 73;refine mX (f:=18) (lb:=#[]) (c:=.func 18) (args:=#[.tmp 74,.const (.string ⟨#[49]⟩)]) (ts:=#[28,26]) (vs:=#[.agg #[.string ⟨#[50,53]⟩,.string ⟨#[50]⟩],.string ⟨#[49]⟩]) (by kernel_rfl) (bW (i:=37) (j:=35) (s:=73) (by kernel_rfl) (by kernel_rfl) hon) rfl (aXb func18) (by simp[Act.eval,v36]) ((M.v1 w hb).mono ?_);rintro e w' ⟨rfl,hb'⟩;exact⟨_,(),rfl,rfl,fun _ _=>rfl,aA hb hb'⟩
  |38,_,hr =>
   have v37:a.tmps[75]?=some (.string ⟨#[49,50]⟩):=H.dep hr 37 75;have hon:a.tmps[73]?=some (.bool true):=H.dep hr 35 73;exact bA (X:=.binOp .eql 26 (.tmp 75) (.const (.string ⟨#[49,50]⟩)) 26) (v:=.bool true) (by kernel_rfl) (bW (i:=38) (j:=35) (s:=73) (by kernel_rfl) (by kernel_rfl) hon) (fun o h=>by simp[execOp,h,v37,go_sem]) rfl hb
  |39,_,hr =>
   have v35:a.tmps[73]?=some (.bool true):=H.dep hr 35 73;have v38:a.tmps[76]?=some (.bool true):=H.dep hr 38 76;exact aWj (.pick (.tmp 73) (.tmp 76) (.const (.bool false))) (.bool true) (fun o h=>by simp[execOp,h,v35,v38,go_sem]) hb
  |40,_,hr =>
   have v39:a.tmps[77]?=some (.bool true):=H.dep hr 39 77;exact aWj (.assign (.tmp 77)) (.bool true) (fun o h=>by simp[execOp,h,v39,go_sem]) hb
  |n+41,h,_=>exact absurd h (by omega)
end
end
section
open Go Go.RowKit Num Dt
theorem aRc{P:Program}{ops:Array Oper}{rest:List Oper}{o:Oper}{a:Act}{w w':World}{Q:Exit->Act->World->Prop}(hgd:o.guard=none)(t:TypeId)(n:Nat)(ps:Array (Nat×Operand))(ho:o.op=.buildSlice t n ps)(qs:Array (Nat×Value))(v:Value)
  (hps:(ps.map fun (i,x)=>(i,a.eval x))=qs) (hrun:(Instr.buildSlice t n qs).run P w=.ok v w') (h:wpList P ops Q rest (a.put o.dst v) w'):wpList P ops Q (o::rest) a w:=by
 refine wpList_plain hgd fun K hK=>Dp ho (v:=v) (w':=w') ?_ (hK _ _ h)
 rw[hps];exact hrun
theorem aPy(w:World):Calls prog 47 #[] w fun e w'=>(∃B,e=.returned (.slice (some ⟨B,0,none⟩) 2 2)/\gT w' (some ⟨B,0,none⟩) 2 pxs)/\Below w.heap.size w w':=by
 go_enter func47,ntmps47;go_wp2_with fail;refine(aP6 2 _ (by decide) (by decide)).mono ?_;rintro e w1 ⟨rfl,hb⟩;have HB1:=Hd hb;clear hb;go_wp2_with fail;refine(aP6 10 _ (by decide) (by decide)).mono ?_;rintro e w2 ⟨rfl,hb⟩;have HB2:=Hd (aA HB1.out hb);clear hb HB1;have HRUN:=Hd (aS3 w2);have KB:=Hd (aP.new0 w2 ((pxV [112,49] 19724 [49,48] []).arr++(pxV [112,50] 19732 [50,53] [50]).arr) 59);have HB3:=Hd (aA HB2.out (aB w2 (.cells ((pxV [112,49] 19724 [49,48] []).arr++(pxV [112,50] 19732 [50,53] [50]).arr) 59)));obtain⟨w3,hw3⟩:∃w3,w3=w2.alloc (.cells ((pxV [112,49] 19724 [49,48] []).arr++(pxV [112,50] 19732 [50,53] [50]).arr) 59):=⟨_,rfl⟩
 rw[<-hw3] at HRUN KB HB3;clear hw3;go_wp2_with (refine aRc rfl 22 2 _ rfl #[(0,.agg (pxV [112,49] 19724 [49,48] []).arr),(1,.agg (pxV [112,50] 19732 [50,53] [50]).arr)] _ (by first|rfl|kernel_rfl) HRUN.out ?_);go_ret;exact⟨⟨_,rfl,aS4 KB.out⟩,HB3.out⟩
theorem aSw:dF pfs=0:=by first|kernel_rfl|decide +kernel
theorem aQi:aJ0 pfs [97,98,99] 19727=some ⟨19724,⟨[49,48],[]⟩⟩:=by first|kernel_rfl|rfl
theorem aRx:aJ0 pfs [97,98,99] 19734=some ⟨19732,⟨[50,53],[50]⟩⟩:=by first|kernel_rfl|rfl
theorem pck(stale:Int)(ds:List Int)(h:ds.all aPt=true)(h0:¬ stale<0):aPk pfs stale ds=0:=by
 unfold aPk;rw[aSw,if_neg (by simp),if_neg (by rw[h];decide),if_neg h0]
theorem aTv:aPz pfs [97,98,99] 19727=some ⟨19724,⟨[49,48],[]⟩⟩:=by
 unfold aPz;rw[pck 0 [19727] (by decide) (by decide),if_pos rfl,aQi]
theorem aRv(stale:Int):aL1 pfs [97,98,99] 19727 stale=if stale<3 then none else some ⟨[49,48],[]⟩:=by
 unfold aL1;rw[aQi];rfl
theorem aSu:aP7 (some ⟨19724,⟨[49,48],[]⟩⟩) (some ⟨19732,⟨[50,53],[50]⟩⟩)=some ⟨[53],[52]⟩:=by first|kernel_rfl|decide +kernel
theorem aR8:aP3 (some ⟨19724,⟨[49,48],[]⟩⟩) (some ⟨19732,⟨[50,53],[50]⟩⟩)=0:=by first|kernel_rfl|decide +kernel
theorem aTs:aJ (aRq [50,53] [50] [51])=[51,56]:=by first|kernel_rfl|decide +kernel
theorem aTt:aJ (aRq [50,53] [50] [49])=[49,50]:=by first|kernel_rfl|decide +kernel
theorem aQe(w:World)(hE:iE w):Calls prog 12 #[] w fun e w'=>e=.returned (.bool true)/\Below w.heap.size w w':=by
 have HLT:Hid (∀B W,Below w.heap.size w W->gT W (some ⟨B,0,none⟩) 2 pxs->Calls prog 28 #[.slice (some ⟨B,0,none⟩) 2 2,.string ⟨#[97,98,99]⟩,.int .i64 19727] W fun e w'=>e=.returned (.tuple #[.agg #[.int .i64 19724,.string ⟨#[49,48]⟩,.string ⟨#[]⟩],.bool true,.int .i64 0])/\Below W.heap.size W w'):=fun B W hb hv=>by
  have h:=aQo pxs (some ⟨B,0,none⟩) 2 [97,98,99] 19727 W (hE.below hb) hv;rw[aSm,aTv,pck 0 [19727] (by decide) (by decide)] at h;exact h
 have HF3:Hid (∀B W,Below w.heap.size w W->gT W (some ⟨B,0,none⟩) 2 pxs->Calls prog 30 #[.slice (some ⟨B,0,none⟩) 2 2,.string ⟨#[97,98,99]⟩,.int .i64 19727,.int .i64 3] W fun e w'=>e=.returned (.tuple #[.agg #[.string ⟨#[49,48]⟩,.string ⟨#[]⟩],.int .i64 0])/\Below W.heap.size W w'):=fun B W hb hv=>by
  have h:=aQt pxs (some ⟨B,0,none⟩) 2 [97,98,99] 19727 3 W (hE.below hb) hv;unfold aQp aP4 at h;rw[aSm,aRv,pck 3 [19727] (by decide) (by decide)] at h;exact h
 have HF2:Hid (∀B W,Below w.heap.size w W->gT W (some ⟨B,0,none⟩) 2 pxs->Calls prog 30 #[.slice (some ⟨B,0,none⟩) 2 2,.string ⟨#[97,98,99]⟩,.int .i64 19727,.int .i64 2] W fun e w'=>e=.returned (.tuple #[.agg #[.string ⟨#[]⟩,.string ⟨#[]⟩],.int .i64 17])/\Below W.heap.size W w'):=fun B W hb hv=>by
  have h:=aQt pxs (some ⟨B,0,none⟩) 2 [97,98,99] 19727 2 W (hE.below hb) hv;unfold aQp aP4 at h;rw[aSm,aRv,pck 2 [19727] (by decide) (by decide)] at h;exact h
 have HCH:Hid (∀B W,Below w.heap.size w W->gT W (some ⟨B,0,none⟩) 2 pxs->Calls prog 13 #[.slice (some ⟨B,0,none⟩) 2 2,.string ⟨#[97,98,99]⟩,.int .i64 19727,.int .i64 19734] W fun e w'=>e=.returned (.tuple #[.agg #[.string ⟨#[53]⟩,.string ⟨#[52]⟩],.int .i64 0])/\Below W.heap.size W w'):=fun B W hb hv=>by
  have h:=aRb pxs (some ⟨B,0,none⟩) 2 [97,98,99] 19727 19734 W (hE.below hb) hv;unfold aPo aPn at h;rw[aSm,pck 0 [19727,19734] (by decide) (by decide),if_pos rfl,if_pos rfl,aQi,aRx,aSu,aR8] at h;exact h
 have HV3:Hid (∀W,Below w.heap.size w W->Calls prog 18 #[.agg #[.string ⟨#[50,53]⟩,.string ⟨#[50]⟩],.string ⟨#[51]⟩] W fun e w'=>e=.returned (.string ⟨#[51,56]⟩)/\Below W.heap.size W w'):=fun W hb=>by
  have h:=aRf [50,53] [50] [51] W (hE.below hb) (by decide) (by decide) (by decide) (by decide +kernel) (by decide +kernel);rw[aTs] at h;exact h
 have HV1:Hid (∀W,Below w.heap.size w W->Calls prog 18 #[.agg #[.string ⟨#[50,53]⟩,.string ⟨#[50]⟩],.string ⟨#[49]⟩] W fun e w'=>e=.returned (.string ⟨#[49,50]⟩)/\Below W.heap.size W w'):=fun W hb=>by
  have h:=aRf [50,53] [50] [49] W (hE.below hb) (by decide) (by decide) (by decide) (by decide +kernel) (by decide +kernel);rw[aTt] at h;exact h
 have HSQ:Hid ((prog.info? 46).map (·.size)=some 3):=aPm;have HSF:Hid ((prog.info? 28).map (·.size)=some 2):=aPp;clear hE;go_enter func12,ntmps12;go_wp2_with fail;refine(aPy _).mono ?_;rintro e w1 ⟨⟨B1,rfl,hv⟩,hb⟩;have HB1:=Hd hb;have HV:=Hd hv;clear hb hv;go_wp2_with fail;refine(aP6 5 _ (by decide) (by decide)).mono ?_;rintro e w2 ⟨rfl,hb⟩;have HB2:=Hd (aA HB1.out hb);have HVV:=Hd (HV.out.below hb);clear hb HB1 HV;go_wp2_with fail;refine(HLT.out _ _ HB2.out HVV.out).mono ?_;rintro e w3 ⟨rfl,hb⟩;have HB3:=Hd (aA HB2.out hb);have HB4:=Hd (aA HB3.out (aB w3 (.cells #[.int .i64 19724,.string ⟨#[49,48]⟩,.string ⟨#[]⟩] 46)));have KQ:=Hd (aP.new0 w3 #[.int .i64 19724,.string ⟨#[49,48]⟩,.string ⟨#[]⟩] 46);clear hb HB2 HVV HLT HB3;go_wp2_with fail;refine(aPy _).mono ?_;rintro e w5 ⟨⟨B2,rfl,hv⟩,hb⟩;have HB5:=Hd (aA HB4.out hb);have KQ5:=Hd (KQ.out.below hb);have HV:=Hd hv;clear hb hv HB4 KQ;go_wp2_with fail;refine(aP6 5 _ (by decide) (by decide)).mono ?_;rintro e w6 ⟨rfl,hb⟩;have HB6:=Hd (aA HB5.out hb);have KQ6:=Hd (KQ5.out.below hb);have HVV:=Hd (HV.out.below hb);clear hb HB5 HV KQ5;go_wp2_with fail;refine(HF3.out _ _ HB6.out HVV.out).mono ?_;rintro e w7 ⟨rfl,hb⟩;have HB7:=Hd (aA HB6.out hb);have KQ7:=Hd (KQ6.out.below hb);have hb8:=aB w7 (.cells #[.string ⟨#[49,48]⟩,.string ⟨#[]⟩] 28);have HB8:=Hd (aA HB7.out hb8);have KQ8:=Hd (KQ7.out.below hb8);have K4:=Hd (aP.new0 w7 #[.string ⟨#[49,48]⟩,.string ⟨#[]⟩] 28);clear hb HB6 HVV HF3 KQ6 hb8 HB7 KQ7;go_wp2_with fail;refine(aPy _).mono ?_;rintro e w9 ⟨⟨B3,rfl,hv⟩,hb⟩;have HB9:=Hd (aA HB8.out hb);have KQ9:=Hd (KQ8.out.below hb);have K49:=Hd (K4.out.below hb);have HV:=Hd hv;clear hb hv HB8 KQ8 K4;go_wp2_with fail;refine(aP6 5 _ (by decide) (by decide)).mono ?_;rintro e w10 ⟨rfl,hb⟩;have HB10:=Hd (aA HB9.out hb);have KQ10:=Hd (KQ9.out.below hb);have K410:=Hd (K49.out.below hb);have HVV:=Hd (HV.out.below hb);clear hb HB9 HV KQ9 K49;go_wp2_with fail;refine(HF2.out _ _ HB10.out HVV.out).mono ?_;rintro e w11 ⟨rfl,hb⟩;have HB11:=Hd (aA HB10.out hb);have KQ11:=Hd (KQ10.out.below hb);have K411:=Hd (K410.out.below hb);have hb8:=aB w11 (.cells #[.string ⟨#[]⟩,.string ⟨#[]⟩] 28);have HB12:=Hd (aA HB11.out hb8);have KQ12:=Hd (KQ11.out.below hb8);have K412:=Hd (K411.out.below hb8);clear hb HB10 HVV HF2 KQ10 K410 hb8 HB11 KQ11 K411;go_wp2_with fail;refine(aPy _).mono ?_;rintro e w13 ⟨⟨B4,rfl,hv⟩,hb⟩;have HB13:=Hd (aA HB12.out hb);have KQ13:=Hd (KQ12.out.below hb);have K413:=Hd (K412.out.below hb);have HV:=Hd hv;clear hb hv HB12 KQ12 K412;go_wp2_with fail;refine(aP6 5 _ (by decide) (by decide)).mono ?_;rintro e w14 ⟨rfl,hb⟩;have HB14:=Hd (aA HB13.out hb);have KQ14:=Hd (KQ13.out.below hb);have K414:=Hd (K413.out.below hb);have HVV:=Hd (HV.out.below hb);clear hb HB13 HV KQ13 K413;go_wp2_with fail;refine(aP6 12 _ (by decide) (by decide)).mono ?_;rintro e w15 ⟨rfl,hb⟩;have HB15:=Hd (aA HB14.out hb);have KQ15:=Hd (KQ14.out.below hb);have K415:=Hd (K414.out.below hb);have HVW:=Hd (HVV.out.below hb);clear hb HB14 HVV KQ14 K414;go_wp2_with fail;refine(HCH.out _ _ HB15.out HVW.out).mono ?_;rintro e w16 ⟨rfl,hb⟩;have HB16:=Hd (aA HB15.out hb);have KQ16:=Hd (KQ15.out.below hb);have K416:=Hd (K415.out.below hb);have hb8:=aB w16 (.cells #[.string ⟨#[53]⟩,.string ⟨#[52]⟩] 28);have HB17:=Hd (aA HB16.out hb8);have KQ17:=Hd (KQ16.out.below hb8);have K417:=Hd (K416.out.below hb8);have K817:=Hd (aP.new0 w16 #[.string ⟨#[53]⟩,.string ⟨#[52]⟩] 28);obtain⟨w17,hw17⟩:∃w17,w17=w16.alloc (.cells #[.string ⟨#[53]⟩,.string ⟨#[52]⟩] 28):=⟨_,rfl⟩
 rw[<-hw17] at HB17 KQ17 K417 K817;have hb9:=aB w17 (.cells #[.string ⟨#[50,53]⟩,.string ⟨#[50]⟩] 28);have HB18:=Hd (aA HB17.out hb9);have KQ18:=Hd (KQ17.out.below hb9);have K418:=Hd (K417.out.below hb9);have K818:=Hd (K817.out.below hb9);have K1018:=Hd (aP.new0 w17 #[.string ⟨#[50,53]⟩,.string ⟨#[50]⟩] 28);have HSW:Hid (w17.heap.size=w16.heap.size+1):=by show _=_;rw[hw17,World.size_alloc]
 obtain⟨w18,hw18⟩:∃w18,w18=w17.alloc (.cells #[.string ⟨#[50,53]⟩,.string ⟨#[50]⟩] 28):=⟨_,rfl⟩
 rw[<-hw18] at HB18 KQ18 K418 K818 K1018;rw[HSW.out] at K1018;have hw19:=hw18;rw[hw17] at hw19;clear hb HB15 HVW HCH KQ15 K415 hb8 hb9 hw17 hw18 HB16 KQ16 K416 HB17 KQ17 K417 K817 HSW;go_wp2_with fail;rw[<-hw19];clear hw19;have hbd:=aD HB18.out 1;have HBD:=Hd hbd;clear hbd;refine aSf (C:=⟨w18.drewN 1,_,_,_,_⟩) ⟨rfl,rfl,rfl,rfl,rfl,rfl,rfl,rfl,rfl,rfl,KQ18.out,K418.out,K818.out,K1018.out,fun W hb=>aP6 2 W (by decide) (by decide),fun W hb=>HV3.out W (aA HBD.out hb),fun W hb=>HV1.out W (aA HBD.out hb)⟩ rfl rfl rfl ?_;intro w19 hb;have HB19:=Hd (aA HBD.out hb);clear hb HBD HB18 KQ18 K418 K818 K1018 HV1 HV3;simp only[iZ,aSq,List.foldl,List.setIfInBounds_toArray,List.set_cons_zero,List.set_cons_succ,aSl.val];go_wp2;go_ret;exact⟨rfl,HB19.out⟩
end
end Go.Proofs.YtejkibnaidiklaaGreatDoor
