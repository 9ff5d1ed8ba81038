/- PriceChainsReg PriceChainsLaw -/
import Derived.Test.YtejkibnaidiklaaGreatDoorJMem
import Derived.Test.YtejkibnaidiklaaGreatDoorJPriceC
import Derived.Test.YtejkibnaidiklaaGreatDoorJPriceA
set_option maxHeartbeats 16000000
set_option maxRecDepth 100000
namespace Go.Proofs.YtejkibnaidiklaaGreatDoor
section
open Go Go.RowKit Num
noncomputable def aS5:Array Oper:=(Tryz.f3.body.bind (jE 9)).getD #[]
def aSn:List (Nat×Nat):=[(0,80),(1,81),(2,82),(3,83),(4,84),(5,85),(6,86),(7,87),(8,88),(9,89),(10,90),(11,91),(12,92),(13,93),(14,94),(15,95),(16,96),(17,97),(18,98),(19,99),(20,100),(21,10)]
structure aSi where
 W0:World
 b11:Nat
 b13:Nat
 b15:Nat
 b17:Nat
 fx:bZ
 fy:bZ
 fz:bZ
def aSi.val(C:aSi)(_:Unit):Nat→Value
 |0=>.int .i64 0
 |1=>.bool true
 |2=>.bool true
 |3=>.agg (aPf C.fx)
 |4=>.agg (aPf C.fy)
 |5=>.agg (aPf C.fz)
 |6=>.agg (aPf C.fz)
 |7=>.bool true
 |8=>.bool true
 |9=>.bool true
 |10=>.int .i64 0
 |11=>.bool true
 |12=>.bool true
 |13=>.bool true
 |14=>.agg (aPf ⟨[49],[]⟩)
 |15=>.agg (aPf ⟨[49],[]⟩)
 |16=>.bool true
 |17=>.bool true
 |18=>.bool true
 |19=>.bool true
 |20=>.bool true
 |_=>.bool true
def aSi.gg(C:aSi)(_:Unit)(_:Array Bool)(W:World):Prop:=Below C.W0.heap.size C.W0 W
structure aTy(C:aSi)(t0:Array Value):Prop where
 sz:t0.size=101
 t11:t0[11]?=some (.pointer (some ⟨C.b11,0,none⟩))
 t13:t0[13]?=some (.pointer (some ⟨C.b13,0,none⟩))
 t15:t0[15]?=some (.pointer (some ⟨C.b15,0,none⟩))
 t16:t0[16]?=some (.int .i64 0)
 t17:t0[17]?=some (.pointer (some ⟨C.b17,0,none⟩))
 t18:t0[18]?=some (.int .i64 0)
 k11:aP C.W0 C.b11 (aPf C.fx) 28
 k13:aP C.W0 C.b13 (aPf C.fy) 28
 k15:aP C.W0 C.b15 (aPf C.fz) 28
 k17:aP C.W0 C.b17 (aPf ⟨[49],[]⟩) 28
 mul:∀W,Below C.W0.heap.size C.W0 W→Calls Tryz.prog 14 #[.agg (aPf C.fx),.agg (aPf C.fy)] W fun e w'=>e=.returned (.agg (aPf C.fz))∧Below W.heap.size W w'
 of1:∀W,Below C.W0.heap.size C.W0 W→Calls Tryz.prog 15 #[.string ⟨#[49]⟩] W fun e w'=>e=.returned (.agg (aPf ⟨[49],[]⟩))∧Below W.heap.size W w'
 aw:∀W,Below C.W0.heap.size C.W0 W→Calls Tryz.prog 12 #[] W fun e w'=>e=.returned (.bool true)∧Below W.heap.size W w'
section
variable {C:aSi}{t0:Array Value}{Q:Exit→Act→World→Prop}
theorem aR9(M:aTy C t0){a:Act}{w:World}(hdf:a.defers=[])(ht:a.tmps=t0)(hw:w.drewN 1=C.W0)
  (hQ:∀W,Below C.W0.heap.size C.W0 W→Q .normal { tmps:=iZ (C.val ()) aSn t0,defers:=[] } W):(Code.region 9 aS5 true).wp Tryz.prog Q a w:=by
 have hsz:aS5.size=22:=by kernel_rfl
 refine eV (ds:=aSn) (val:=C.val) (G:=C.gg) (by kernel_rfl) (by kernel_rfl) (by decide) (fun p hp=>?_) (by kernel_rfl) ?_ (γ:=()) hdf ht (by rw[hw];exact Br _ _) (fun _ _ W _ hg=>hQ W hg)
 ·rw[M.sz];have:∀p,p∈aSn→p.2<101:=by decide
  exact this p hp
 ·intro γ l a w i H hr;cases γ;have hi:i<22:=by
   obtain⟨_,o,ho,_⟩:=mem_ready.1 hr;have:=(Ai.1 ho).1;rw[hsz] at this;exact this
  have t11:=H.low (s:=11) (by decide) M.t11;have t13:=H.low (s:=13) (by decide) M.t13;have t15:=H.low (s:=15) (by decide) M.t15;have t16:=H.low (s:=16) (by decide) M.t16;have t17:=H.low (s:=17) (by decide) M.t17;have t18:=H.low (s:=18) (by decide) M.t18;have hb:Below C.W0.heap.size C.W0 w:=H.g
  match i,hi,hr with
  |0,_,hr =>
   exact aH (X:=.move (.tmp 16)) (v:=.int .i64 0) (by kernel_rfl) (fun o h=>by simp[execOp,h,t16,go_sem]) rfl hb
  |1,_,hr =>
   have v0:a.tmps[80]?=some (.int .i64 0):=H.dep hr 0 80 (by kernel_rfl) ⟨rfl,by decide⟩;exact aH (X:=.binOp .eql 29 (.tmp 80) (.const (.int .i64 0)) 29) (v:=.bool true) (by kernel_rfl) (fun o h=>by simp[execOp,h,v0,go_sem]) rfl hb
  |2,_,hr =>
   have v1:a.tmps[81]?=some (.bool true):=H.dep hr 1 81 (by kernel_rfl) ⟨rfl,by decide⟩;exact aH (X:=.move (.tmp 81)) (v:=.bool true) (by kernel_rfl) (fun o h=>by simp[execOp,h,v1,go_sem]) rfl hb
  |3,_,hr =>
   have hon:a.tmps[82]?=some (.bool true):=H.dep hr 2 82 (by kernel_rfl) ⟨rfl,by decide⟩;exact bA (X:=.load 28 (.tmp 11)) (v:=.agg (aPf C.fx)) (by kernel_rfl) (bW (i:=3) (j:=2) (s:=82) (by kernel_rfl) (by kernel_rfl) hon) (fun o h=>by exact aW h (oC t11) (gR (M.k11.below hb)) Tryz.underlying28 rfl aPp) rfl hb
  |4,_,hr =>
   have hon:a.tmps[82]?=some (.bool true):=H.dep hr 2 82 (by kernel_rfl) ⟨rfl,by decide⟩;exact bA (X:=.load 28 (.tmp 13)) (v:=.agg (aPf C.fy)) (by kernel_rfl) (bW (i:=4) (j:=2) (s:=82) (by kernel_rfl) (by kernel_rfl) hon) (fun o h=>by exact aW h (oC t13) (gR (M.k13.below hb)) Tryz.underlying28 rfl aPp) rfl hb
  |5,_,hr =>
   have v3:a.tmps[83]?=some (.agg (aPf C.fx)):=H.dep hr 3 83 (by kernel_rfl) ⟨rfl,by decide⟩;have v4:a.tmps[84]?=some (.agg (aPf C.fy)):=H.dep hr 4 84 (by kernel_rfl) ⟨rfl,by decide⟩;have hon:a.tmps[82]?=some (.bool true):=H.dep hr 2 82 (by kernel_rfl) ⟨rfl,by decide⟩;refine mX (f:=14) (lb:=#[]) (c:=.func 14) (args:=#[.tmp 83,.tmp 84]) (ts:=#[28,28]) (vs:=#[.agg (aPf C.fx),.agg (aPf C.fy)]) (by kernel_rfl) (bW (i:=5) (j:=2) (s:=82) (by kernel_rfl) (by kernel_rfl) hon) rfl (enters_of Tryz.func14 (by kernel_rfl) rfl) (by simp[Act.eval,v3,v4]) ((M.mul w hb).mono ?_);rintro e w' ⟨rfl,hb'⟩;exact⟨_,(),rfl,rfl,fun _ _=>rfl,aA hb hb'⟩
  |6,_,hr =>
   have hon:a.tmps[82]?=some (.bool true):=H.dep hr 2 82 (by kernel_rfl) ⟨rfl,by decide⟩;exact bA (X:=.load 28 (.tmp 15)) (v:=.agg (aPf C.fz)) (by kernel_rfl) (bW (i:=6) (j:=2) (s:=82) (by kernel_rfl) (by kernel_rfl) hon) (fun o h=>by exact aW h (oC t15) (gR (M.k15.below hb)) Tryz.underlying28 rfl aPp) rfl hb
  |7,_,hr =>
   have v5:a.tmps[85]?=some (.agg (aPf C.fz)):=H.dep hr 5 85 (by kernel_rfl) ⟨rfl,by decide⟩;have v6:a.tmps[86]?=some (.agg (aPf C.fz)):=H.dep hr 6 86 (by kernel_rfl) ⟨rfl,by decide⟩;have hon:a.tmps[82]?=some (.bool true):=H.dep hr 2 82 (by kernel_rfl) ⟨rfl,by decide⟩;exact bA (X:=.binOp .eql 28 (.tmp 85) (.tmp 86) 28) (v:=.bool true) (by kernel_rfl) (bW (i:=7) (j:=2) (s:=82) (by kernel_rfl) (by kernel_rfl) hon) (fun o h=>by exact Dl h (oC v5) (oC v6) (aQ7 _ _ _ _ _ _) (aRh _ _ _)) rfl hb
  |8,_,hr =>
   have v2:a.tmps[82]?=some (.bool true):=H.dep hr 2 82 (by kernel_rfl) ⟨rfl,by decide⟩;have v7:a.tmps[87]?=some (.bool true):=H.dep hr 7 87 (by kernel_rfl) ⟨rfl,by decide⟩;exact aH (X:=.pick (.tmp 82) (.tmp 87) (.const (.bool false))) (v:=.bool true) (by kernel_rfl) (fun o h=>by simp[execOp,h,v2,v7,go_sem]) rfl hb
  |9,_,hr =>
   have v8:a.tmps[88]?=some (.bool true):=H.dep hr 8 88 (by kernel_rfl) ⟨rfl,by decide⟩;exact aH (X:=.move (.tmp 88)) (v:=.bool true) (by kernel_rfl) (fun o h=>by simp[execOp,h,v8,go_sem]) rfl hb
  |10,_,hr =>
   have hon:a.tmps[89]?=some (.bool true):=H.dep hr 9 89 (by kernel_rfl) ⟨rfl,by decide⟩;exact bA (X:=.move (.tmp 18)) (v:=.int .i64 0) (by kernel_rfl) (bW (i:=10) (j:=9) (s:=89) (by kernel_rfl) (by kernel_rfl) hon) (fun o h=>by simp[execOp,h,t18,go_sem]) rfl hb
  |11,_,hr =>
   have v10:a.tmps[90]?=some (.int .i64 0):=H.dep hr 10 90 (by kernel_rfl) ⟨rfl,by decide⟩;have hon:a.tmps[89]?=some (.bool true):=H.dep hr 9 89 (by kernel_rfl) ⟨rfl,by decide⟩;exact bA (X:=.binOp .eql 29 (.tmp 90) (.const (.int .i64 0)) 29) (v:=.bool true) (by kernel_rfl) (bW (i:=11) (j:=9) (s:=89) (by kernel_rfl) (by kernel_rfl) hon) (fun o h=>by simp[execOp,h,v10,go_sem]) rfl hb
  |12,_,hr =>
   have v9:a.tmps[89]?=some (.bool true):=H.dep hr 9 89 (by kernel_rfl) ⟨rfl,by decide⟩;have v11:a.tmps[91]?=some (.bool true):=H.dep hr 11 91 (by kernel_rfl) ⟨rfl,by decide⟩;exact aH (X:=.pick (.tmp 89) (.tmp 91) (.const (.bool false))) (v:=.bool true) (by kernel_rfl) (fun o h=>by simp[execOp,h,v9,v11,go_sem]) rfl hb
  |13,_,hr =>
   have v12:a.tmps[92]?=some (.bool true):=H.dep hr 12 92 (by kernel_rfl) ⟨rfl,by decide⟩;exact aH (X:=.move (.tmp 92)) (v:=.bool true) (by kernel_rfl) (fun o h=>by simp[execOp,h,v12,go_sem]) rfl hb
  |14,_,hr =>
   have hon:a.tmps[93]?=some (.bool true):=H.dep hr 13 93 (by kernel_rfl) ⟨rfl,by decide⟩;exact bA (X:=.load 28 (.tmp 17)) (v:=.agg (aPf ⟨[49],[]⟩)) (by kernel_rfl) (bW (i:=14) (j:=13) (s:=93) (by kernel_rfl) (by kernel_rfl) hon) (fun o h=>by exact aW h (oC t17) (gR (M.k17.below hb)) Tryz.underlying28 rfl aPp) rfl hb
  |15,_,hr =>
   have hon:a.tmps[93]?=some (.bool true):=H.dep hr 13 93 (by kernel_rfl) ⟨rfl,by decide⟩;refine mX (f:=15) (lb:=#[]) (c:=.func 15) (args:=#[.const (.string ⟨#[49]⟩)]) (ts:=#[26]) (vs:=#[.string ⟨#[49]⟩]) (by kernel_rfl) (bW (i:=15) (j:=13) (s:=93) (by kernel_rfl) (by kernel_rfl) hon) rfl (enters_of Tryz.func15 (by kernel_rfl) rfl) (by simp[Act.eval]) ((M.of1 w hb).mono ?_);rintro e w' ⟨rfl,hb'⟩;exact⟨_,(),rfl,rfl,fun _ _=>rfl,aA hb hb'⟩
  |16,_,hr =>
   have v14:a.tmps[94]?=some (.agg (aPf ⟨[49],[]⟩)):=H.dep hr 14 94 (by kernel_rfl) ⟨rfl,by decide⟩;have v15:a.tmps[95]?=some (.agg (aPf ⟨[49],[]⟩)):=H.dep hr 15 95 (by kernel_rfl) ⟨rfl,by decide⟩;have hon:a.tmps[93]?=some (.bool true):=H.dep hr 13 93 (by kernel_rfl) ⟨rfl,by decide⟩;exact bA (X:=.binOp .eql 28 (.tmp 94) (.tmp 95) 28) (v:=.bool true) (by kernel_rfl) (bW (i:=16) (j:=13) (s:=93) (by kernel_rfl) (by kernel_rfl) hon) (fun o h=>by exact Dl h (oC v14) (oC v15) (aQ7 _ _ _ _ _ _) (aRh _ _ _)) rfl hb
  |17,_,hr =>
   have v13:a.tmps[93]?=some (.bool true):=H.dep hr 13 93 (by kernel_rfl) ⟨rfl,by decide⟩;have v16:a.tmps[96]?=some (.bool true):=H.dep hr 16 96 (by kernel_rfl) ⟨rfl,by decide⟩;exact aH (X:=.pick (.tmp 93) (.tmp 96) (.const (.bool false))) (v:=.bool true) (by kernel_rfl) (fun o h=>by simp[execOp,h,v13,v16,go_sem]) rfl hb
  |18,_,hr =>
   have v17:a.tmps[97]?=some (.bool true):=H.dep hr 17 97 (by kernel_rfl) ⟨rfl,by decide⟩;exact aH (X:=.move (.tmp 97)) (v:=.bool true) (by kernel_rfl) (fun o h=>by simp[execOp,h,v17,go_sem]) rfl hb
  |19,_,hr =>
   have hon:a.tmps[98]?=some (.bool true):=H.dep hr 18 98 (by kernel_rfl) ⟨rfl,by decide⟩;refine mX (f:=12) (lb:=#[]) (c:=.func 12) (args:=#[]) (ts:=#[]) (vs:=#[]) (by kernel_rfl) (bW (i:=19) (j:=18) (s:=98) (by kernel_rfl) (by kernel_rfl) hon) rfl (enters_of Tryz.func12 (by kernel_rfl) rfl) (by simp) ((M.aw w hb).mono ?_);rintro e w' ⟨rfl,hb'⟩;exact⟨_,(),rfl,rfl,fun _ _=>rfl,aA hb hb'⟩
  |20,_,hr =>
   have v18:a.tmps[98]?=some (.bool true):=H.dep hr 18 98 (by kernel_rfl) ⟨rfl,by decide⟩;have v19:a.tmps[99]?=some (.bool true):=H.dep hr 19 99 (by kernel_rfl) ⟨rfl,by decide⟩;exact aH (X:=.pick (.tmp 98) (.tmp 99) (.const (.bool false))) (v:=.bool true) (by kernel_rfl) (fun o h=>by simp[execOp,h,v18,v19,go_sem]) rfl hb
  |21,_,hr =>
   have v20:a.tmps[100]?=some (.bool true):=H.dep hr 20 100 (by kernel_rfl) ⟨rfl,by decide⟩;exact aH (X:=.assign (.tmp 100)) (v:=.bool true) (by kernel_rfl) (fun o h=>by simp[execOp,h,v20,go_sem]) rfl hb
  |n+22,h,_=>exact absurd h (by omega)
end
end
section
open Go Go.RowKit Num
theorem aQ9{fs:List aE}{ins:List UInt8}{a b:Int}(h:¬ aPn fs ins a b=0):aPo fs ins a b=none:=by
 unfold aPn at h;unfold aPo
 by_cases hp:aPk fs 0 [a,b]=0
 ·rw[if_pos hp] at h ⊢;unfold aP3 at h;unfold aP7;cases ha:aJ0 fs ins a with
  |none=>cases aJ0 fs ins b <;> rfl
  |some p =>
   cases hb:aJ0 fs ins b with
   |none=>rfl
   |some q =>
    rw[ha,hb] at h;simp only at h ⊢
    by_cases hz:val p.price.n=0
    ·rw[if_pos hz]
    ·rw[if_neg hz] at h;exact absurd rfl h
 ·rw[if_neg hp]
theorem aRi{fs:List aE}{ins:List UInt8}{a b:Int}(h:aPn fs ins a b=0):dF fs=0∧aPt a=true∧aPt b=true∧∃p q,aJ0 fs ins a=some p∧aJ0 fs ins b=some q∧val p.price.n≠0:=by
 unfold aPn at h
 by_cases hp:aPk fs 0 [a,b]=0
 ·rw[if_pos hp] at h;obtain⟨h1,h2,_⟩:=aPx hp;simp at h2;refine⟨h1,h2.1,h2.2,?_⟩;unfold aP3 at h;cases ha:aJ0 fs ins a with
  |none=>rw[ha] at h;cases hb:aJ0 fs ins b <;> rw[hb] at h <;> cases h
  |some p =>
   cases hb:aJ0 fs ins b with
   |none=>rw[ha,hb] at h;cases h
   |some q =>
    rw[ha,hb] at h;simp only at h;refine⟨p,q,rfl,rfl,fun hz=>?_⟩;rw[if_pos hz] at h;cases h
 ·rw[if_neg hp] at h;exact absurd h hp
theorem aQg{fs:List aE}{ins:List UInt8}{a b:Int}{p q:aJv}(hv:dF fs=0)(h1:aPt a=true)(h2:aPt b=true)(ha:aJ0 fs ins a=some p)(hb:aJ0 fs ins b=some q)(hz:val p.price.n≠0):
  aPo fs ins a b=some (mkF (aP5 q.price.n p.price.d) (aP2 q.price.d p.price.n))∧aPn fs ins a b=0:=by
 have hp:aPk fs 0 [a,b]=0:=by
  unfold aPk;have h4:[a,b].all aPt=true:=by simp[h1,h2]
  rw[hv,if_neg (by simp),if_neg (by rw[h4];decide),if_neg (by decide)]
 unfold aPo aPn;rw[if_pos hp,if_pos hp,ha,hb];unfold aP7 aP3;simp only;rw[if_neg hz,if_neg hz];exact⟨rfl,rfl⟩
theorem aQc{fs:List aE}{ins:List UInt8}{d:Int}{q:aJv}(hv:dF fs=0)(h:aJ0 fs ins d=some q):∃f,f∈fs∧q.price=f.price:=by
 obtain⟨f,hf,_,rfl⟩:=aLv hv (aK5 h);exact⟨f,hf,rfl⟩
def aQ0(p:bZ):Prop:=p.n.length≤13∧p.d.length≤13
theorem aRr{f:aE}(h:f.tight):aQ0 f.price:=by
 have:=h.price;unfold bI at this;simp at this;exact this
theorem aR3{d:List UInt8}(h:d.length≤13):(lU d).natAbs<10^13:=by
 unfold lU;split
 ·decide
 ·exact lO h
theorem aQ2{p q:bZ}(hp:aQ0 p)(hq:aQ0 q)(hz:val p.n≠0):(mkF (aP5 q.n p.d) (aP2 q.d p.n)).n.length≤60∧(mkF (aP5 q.n p.d) (aP2 q.d p.n)).d.length≤60:=by
 have hD:aP2 q.d p.n≠0:=Int.mul_ne_zero (qQ _) hz;have h1:(aP5 q.n p.d).natAbs<10^26:=by
  unfold aP5;rw[Int.natAbs_mul,show (10:Nat)^26=10^13*10^13 by decide];exact Nat.mul_lt_mul'' (lO hq.1) (aR3 hp.2)
 have h2:(aP2 q.d p.n).natAbs<10^26:=by
  unfold aP2;rw[Int.natAbs_mul,show (10:Nat)^26=10^13*10^13 by decide];exact Nat.mul_lt_mul'' (aR3 hq.2) (lO hp.1)
 refine⟨Nat.le_trans (gC (K:=26) (by decide) (Nat.lt_of_le_of_lt (Sy hD) h1)) (by decide),Uz (Nat.le_trans (gC (K:=26) (by decide) (Nat.lt_of_le_of_lt (Tk hD) h2)) (by decide))⟩
theorem aTq{fs:List aE}{ins:List UInt8}{a b c:Int}(h13:∀f,f∈fs→aQ0 f.price)(h1:aPn fs ins a b=0)(h2:aPn fs ins b c=0):
  ∃fx fy fz:bZ,aPo fs ins a b=some fx∧aPo fs ins b c=some fy∧aPo fs ins a c=some fz∧aPn fs ins a c=0∧aPo fs ins b b=some ⟨[49],[]⟩∧aPn fs ins b b=0 ∧
   (fx.n.length≤60∧fx.d.length≤60∧fy.n.length≤60∧fy.d.length≤60)∧mkF (aQj fx.n fy.n) (aQk fx.d fy.d)=fz:=by
 obtain⟨hv,oa,ob,pa,pb,la,lb,na⟩:=aRi h1;obtain⟨_,_,oc,pb',pc,lb',lc,nb⟩:=aRi h2;obtain rfl:pb=pb':=Option.some.inj (lb.symm.trans lb');have sa:aQ0 pa.price:=by obtain⟨f,hf,e⟩:=aQc hv la;rw[e];exact h13 f hf
 have sb:aQ0 pb.price:=by obtain⟨f,hf,e⟩:=aQc hv lb;rw[e];exact h13 f hf
 have sc:aQ0 pc.price:=by obtain⟨f,hf,e⟩:=aQc hv lc;rw[e];exact h13 f hf
 obtain⟨v1,_⟩:=aQg hv oa ob la lb na;obtain⟨v2,_⟩:=aQg hv ob oc lb lc nb;obtain⟨v3,e3⟩:=aQg hv oa oc la lc na;obtain⟨v4,e4⟩:=aQg hv ob ob lb lb nb;refine⟨_,_,_,v1,v2,v3,e3,?_,e4,?_,?_⟩
 ·rw[v4];unfold aP5 aP2;rw[aLn nb (qQ _)]
 ·exact⟨(aQ2 sa sb na).1,(aQ2 sa sb na).2,(aQ2 sb sc nb).1,(aQ2 sb sc nb).2⟩
 ·unfold aQj aQk;have d1:aP2 pb.price.d pa.price.n≠0:=Int.mul_ne_zero (qQ _) na;have d2:aP2 pc.price.d pb.price.n≠0:=Int.mul_ne_zero (qQ _) nb;rw[aLx,aLx,aLy d1,aLy d2];unfold aP5 aP2;exact aLi (qQ _) (qQ _) (qQ _) na nb
theorem aQh(xs:List aF)(ins:List UInt8)(da db dc:Int)(a:Option Addr)(c:Nat)(w:World)(hE:iE w)(hn:xs.length≤9223372036854775807)(_hcap:xs.length≤c)(hr:fS w a xs)(hf:∀x,x∈xs→x.fits):
  Calls Tryz.prog 3 #[.slice a xs.length c,.string ⟨ins.toArray⟩,.int .i64 da,.int .i64 db,.int .i64 dc] w fun e w'=>e=.returned (.bool true)∧Below w.heap.size w w':=by
 have HG:=Hd (aQn xs a c w hE hn hr hf);have HAW:Hid (∀W,Below w.heap.size w W→Calls Tryz.prog 12 #[] W fun e w'=>e=.returned (.bool true)∧Below W.heap.size W w'):=fun W hb=>aQe W (hE.below hb)
 have HE:=Hd hE;have HR:=Hd hr;have HF:=Hd hf;clear hE hr hf _hcap;go_enter Tryz.func3,Tryz.ntmps3;go_wp2_with fail;refine HG.out.mono ?_;rintro e w1 ⟨⟨g,rfl,hg⟩,hb⟩;have HB1:=Hd hb;have HGG:=Hd hg;clear hb hg HG;cases g with
 |false =>
  go_wp2_with fail;refine(HAW.out _ HB1.out).mono ?_;rintro e wz ⟨rfl,hb⟩;go_wp2;go_ret;exact⟨rfl,aA HB1.out hb⟩
 |true =>
  have HFI:=Hd (HGG.out rfl);clear HGG;have hV:gT w a c xs:=⟨HR.out,fun y hy=>⟨(HFI.out.1 y hy).small,(HF.out y hy).picks⟩,by have:=HFI.out.2.1;omega⟩
  obtain⟨fs,hfs⟩:∃fs,fs=xs.map aF.f:=⟨_,rfl⟩
  have h13:∀f,f∈fs→aQ0 f.price:=fun f h=>by
   rw[hfs] at h;obtain⟨x,hx,rfl⟩:=List.mem_map.1 h;exact aRr (HFI.out.1 x hx)
  have HCH:Hid (∀u v W,Below w.heap.size w W→Calls Tryz.prog 13 #[.slice a xs.length c,.string ⟨ins.toArray⟩,.int .i64 u,.int .i64 v] W fun e w'=>e=.returned (.tuple #[.agg (aPf (FV (aPo fs ins u v))),.int .i64 (aPn fs ins u v)])∧Below W.heap.size W w'):=fun u v W hb=>by
   rw[hfs];exact aRb xs a c ins u v W (HE.out.below hb) (hV.below hb)
  have HC1:=Hd (HCH.out da db);have HC2:=Hd (HCH.out db dc);have HC3:=Hd (HCH.out da dc);have HC4:=Hd (HCH.out db db);have HCN:Hid (aPn fs ins da db=0→aPn fs ins db dc=0→∃fx fy fz:bZ,aPo fs ins da db=some fx∧aPo fs ins db dc=some fy∧aPo fs ins da dc=some fz∧aPn fs ins da dc=0∧aPo fs ins db db=some ⟨[49],[]⟩∧aPn fs ins db db=0 ∧
   (fx.n.length≤60∧fx.d.length≤60∧fy.n.length≤60∧fy.d.length≤60)∧mkF (aQj fx.n fy.n) (aQk fx.d fy.d)=fz):=aTq h13
  have HBD1:Hid (¬ aPn fs ins da db=0→aPo fs ins da db=none):=aQ9;have HBD2:Hid (¬ aPn fs ins db dc=0→aPo fs ins db dc=none):=aQ9;have HSF:Hid (∀f,(Tryz.prog.info? 28).map (·.size)=some (aPf f).size):=fun _=>aPp
  have HONF:Hid (∀f,(aPf f).all (·.oneCell')=true):=aP0;have HS2:Hid (∀f,Z2.size=(aPf f).size):=fun _=>rfl
  have HFC:Hid (∀f,(aPf f)[0]?=some (.string ⟨f.n.toArray⟩)∧(aPf f)[1]?=some (.string ⟨f.d.toArray⟩)):=fun _=>⟨rfl,rfl⟩
  clear HR HF HFI hV h13 hfs HCH;generalize aPo fs ins da db=v1 at *;generalize aPo fs ins db dc=v2 at *;generalize aPo fs ins da dc=v3 at *;generalize aPn fs ins da db=e1 at *;generalize aPn fs ins db dc=e2 at *;generalize aPn fs ins da dc=e3 at *;generalize xs.length=n at *;go_wp2_with fail;refine(HC1.out _ HB1.out).mono ?_;rintro e w2 ⟨rfl,hb⟩;have HB2:=Hd (aA HB1.out hb);have HN:=Hd (aB w2 (.cells Z2 28));have KN:=Hd (aP.new0 w2 Z2 28);clear hb HB1 HC1;go_wp2_with (refine aOw rfl 28 _ _ rfl w2.heap.size rfl (aPf (FV v1)) rfl KN.out (HSF.out _) (HS2.out _) (HONF.out _) ?_;intro w3 kx bx _ _;have hb8:=HN.out.trans (bx _ (Nl _));have HB3:=Hd (aA HB2.out hb8);have KX3:=Hd kx;clear kx bx hb8);refine(HC2.out _ HB3.out).mono ?_;rintro e w4 ⟨rfl,hb⟩;have HB4:=Hd (aA HB3.out hb);have KX4:=Hd (KX3.out.below hb);have HN4:=Hd (aB w4 (.cells Z2 28));have KN4:=Hd (aP.new0 w4 Z2 28);clear hb HB3 HC2 KX3 HN KN HB2;go_wp2_with (refine aOw rfl 28 _ _ rfl w4.heap.size rfl (aPf (FV v2)) rfl KN4.out (HSF.out _) (HS2.out _) (HONF.out _) ?_;intro w5 kx bx _ _;have hb8:=HN4.out.trans (bx _ (Nl _));have HB5:=Hd (aA HB4.out hb8);have KX5:=Hd (KX4.out.below hb8);have KY5:=Hd kx;clear kx bx hb8);refine(HC3.out _ HB5.out).mono ?_;rintro e w6 ⟨rfl,hb⟩;have HB6:=Hd (aA HB5.out hb);have KX6:=Hd (KX5.out.below hb);have KY6:=Hd (KY5.out.below hb);have HN6:=Hd (aB w6 (.cells Z2 28));have KN6:=Hd (aP.new0 w6 Z2 28);clear hb HB5 HC3 KX5 KY5 HN4 KN4 HB4 KX4
  by_cases h1:e1=0
  ·subst h1
   by_cases h2:e2=0
   ·subst h2;obtain⟨fx,fy,fz,r1,r2,r3,r4,r5,r6,hl,hm⟩:=HCN.out rfl rfl;rw[r5,r6] at HC4;subst r1 r2 r3 r4;have HM:Hid (∀W,Below w.heap.size w W→Calls Tryz.prog 14 #[.agg (aPf fx),.agg (aPf fy)] W fun e w'=>e=.returned (.agg (aPf fz))∧Below W.heap.size W w'):=fun W hb=>by
     rw[←hm];exact aQy fx.n fx.d fy.n fy.d W (HE.out.below hb) hl.1 hl.2.1 hl.2.2.1 hl.2.2.2
    have HO:Hid (∀W,Below w.heap.size w W→Calls Tryz.prog 15 #[.string ⟨#[49]⟩] W fun e w'=>e=.returned (.agg (aPf ⟨[49],[]⟩))∧Below W.heap.size W w'):=fun W hb=>by
     have h:=aQ8 [49] W (HE.out.below hb) (by decide);rw[jB,mK] at h;exact h
    clear hm hl HCN HBD1 HBD2 r5 r6 HFC;go_wp2_with (refine aOw rfl 28 _ _ rfl w6.heap.size rfl (aPf (FV (some fz))) rfl KN6.out (HSF.out _) (HS2.out _) (HONF.out _) ?_;intro w7 kx bx _ _;have hb8:=HN6.out.trans (bx _ (Nl _));have HB7:=Hd (aA HB6.out hb8);have KX7:=Hd (KX6.out.below hb8);have KY7:=Hd (KY6.out.below hb8);have KZ7:=Hd kx;clear kx bx hb8);refine(HC4.out _ HB7.out).mono ?_;rintro e w8 ⟨rfl,hb⟩;have HB8:=Hd (aA HB7.out hb);have KX8:=Hd (KX7.out.below hb);have KY8:=Hd (KY7.out.below hb);have KZ8:=Hd (KZ7.out.below hb);have HN8:=Hd (aB w8 (.cells Z2 28));have KN8:=Hd (aP.new0 w8 Z2 28);clear hb HB7 HC4 KX7 KY7 KZ7 HN6 KN6 HB6 KX6 KY6;go_wp2_with (refine aOw rfl 28 _ _ rfl w8.heap.size rfl (aPf (FV (some ⟨[49],[]⟩))) rfl KN8.out (HSF.out _) (HS2.out _) (HONF.out _) ?_;intro w9 kx bx _ _;have hb8:=HN8.out.trans (bx _ (Nl _));have HB9:=Hd (aA HB8.out hb8);have KX9:=Hd (KX8.out.below hb8);have KY9:=Hd (KY8.out.below hb8);have KZ9:=Hd (KZ8.out.below hb8);have KO9:=Hd kx;clear kx bx hb8);have hbd:=aD HB9.out 1;have HBD:=Hd hbd;clear hbd;refine aR9 (C:=⟨w9.drewN 1,_,_,_,_,fx,fy,fz⟩) ⟨rfl,rfl,rfl,rfl,rfl,rfl,rfl,KX9.out,KY9.out,KZ9.out,KO9.out,fun W hb=>HM.out W (aA HBD.out hb),fun W hb=>HO.out W (aA HBD.out hb),fun W hb=>HAW.out W (aA HBD.out hb)⟩ rfl rfl rfl ?_;intro w19 hb;have HB19:=Hd (aA HBD.out hb);clear hb HBD HB9 KX9 KY9 KZ9 KO9;simp only[iZ,aSn,List.foldl,List.setIfInBounds_toArray,List.set_cons_zero,List.set_cons_succ,aSi.val];go_wp2;go_ret;exact⟨rfl,HB19.out⟩
   ·have h2':(e2==0)=false:=by simpa using h2
    have hv2:=HBD2.out h2;subst hv2;clear HCN HBD1 HBD2 HC4;go_wp2_with (refine aOw rfl 28 _ _ rfl w6.heap.size rfl (aPf (FV v3)) rfl KN6.out (HSF.out _) (HS2.out _) (HONF.out _) ?_;intro w7 kx bx _ _;have hb8:=HN6.out.trans (bx _ (Nl _));have HB7:=Hd (aA HB6.out hb8);have x0:=((KX6.out.below hb8).cell 0).trans (HFC.out _).1;have x1:=((KX6.out.below hb8).cell 1).trans (HFC.out _).2;have y0:w7.cell? ⟨w4.heap.size,0,none⟩=some (.string ⟨#[]⟩):=((KY6.out.below hb8).cell 0).trans (HFC.out _).1;have y1:w7.cell? ⟨w4.heap.size,1,none⟩=some (.string ⟨#[]⟩):=((KY6.out.below hb8).cell 1).trans (HFC.out _).2;clear kx bx hb8);refine(HAW.out _ HB7.out).mono ?_;rintro e wz ⟨rfl,hb⟩;go_wp2;go_ret;exact⟨rfl,aA HB7.out hb⟩
  ·have h1':(e1==0)=false:=by simpa using h1
   have hv1:=HBD1.out h1;subst hv1;have hv2:∃y:bZ,y=FV v2∧(e2=0∨(¬ e2=0∧y=⟨[],[]⟩)):=by
    refine⟨_,rfl,?_⟩
    by_cases h2:e2=0
    ·exact .inl h2
    ·right;refine⟨h2,?_⟩;rw[HBD2.out h2];rfl
   obtain⟨y,hy,hyy⟩:=hv2;rw[←hy] at KY6;clear HCN HBD1 HBD2 HC4 hy;rcases hyy with rfl|⟨h2,rfl⟩
   ·go_wp2_with (refine aOw rfl 28 _ _ rfl w6.heap.size rfl (aPf (FV v3)) rfl KN6.out (HSF.out _) (HS2.out _) (HONF.out _) ?_;intro w7 kx bx _ _;have hb8:=HN6.out.trans (bx _ (Nl _));have HB7:=Hd (aA HB6.out hb8);have x0:w7.cell? ⟨w2.heap.size,0,none⟩=some (.string ⟨#[]⟩):=((KX6.out.below hb8).cell 0).trans (HFC.out _).1;have x1:w7.cell? ⟨w2.heap.size,1,none⟩=some (.string ⟨#[]⟩):=((KX6.out.below hb8).cell 1).trans (HFC.out _).2;clear kx bx hb8);refine(HAW.out _ HB7.out).mono ?_;rintro e wz ⟨rfl,hb⟩;go_wp2;go_ret;exact⟨rfl,aA HB7.out hb⟩
   ·have h2':(e2==0)=false:=by simpa using h2
    go_wp2_with (refine aOw rfl 28 _ _ rfl w6.heap.size rfl (aPf (FV v3)) rfl KN6.out (HSF.out _) (HS2.out _) (HONF.out _) ?_;intro w7 kx bx _ _;have hb8:=HN6.out.trans (bx _ (Nl _));have HB7:=Hd (aA HB6.out hb8);have x0:w7.cell? ⟨w2.heap.size,0,none⟩=some (.string ⟨#[]⟩):=((KX6.out.below hb8).cell 0).trans (HFC.out _).1;have x1:w7.cell? ⟨w2.heap.size,1,none⟩=some (.string ⟨#[]⟩):=((KX6.out.below hb8).cell 1).trans (HFC.out _).2;have y0:w7.cell? ⟨w4.heap.size,0,none⟩=some (.string ⟨#[]⟩):=((KY6.out.below hb8).cell 0).trans (HFC.out _).1;have y1:w7.cell? ⟨w4.heap.size,1,none⟩=some (.string ⟨#[]⟩):=((KY6.out.below hb8).cell 1).trans (HFC.out _).2;clear kx bx hb8);refine(HAW.out _ HB7.out).mono ?_;rintro e wz ⟨rfl,hb⟩;go_wp2;go_ret;exact⟨rfl,aA HB7.out hb⟩
end
end Go.Proofs.YtejkibnaidiklaaGreatDoor
