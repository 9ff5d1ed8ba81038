/- WRepl1 -/
import Derived.Test.YtiloklnjjfaagaaGreatDoorVD
import Derived.Test.YtiloklnjjfaagaaGreatDoorVC
set_option maxHeartbeats 16000000
set_option maxRecDepth 100000
namespace Go.Proofs.YtiloklnjjfaagaaGreatDoor
open Go.Proofs.Tryz
open Go Go.RowKit Num
noncomputable def dIt:Array Oper:=(f44.body.bind (dDa 5)).getD #[]
def dH6:List (Nat×Nat):=[(0,46),(1,47),(2,48),(3,49),(4,50),(5,51),(6,52),(7,53),(8,54),(9,55),(10,56),(11,57),(12,58),(13,59),(14,60),(15,45),(16,61),(17,62),(18,63),(19,12),(20,13),(21,14)]
structure dH2 where
 W0:World
 g:Nat
 i:Nat
 x:aLe
 q:List UInt8
 ls:List UInt8
 sb:List UInt8
 op:List UInt8
 a:List UInt8
 rs:List UInt8
def dH2.val(C:dH2)(_:Unit):Nat->Value
 |0=>.pointer (some ⟨C.g,C.i*10,none⟩)
 |1=>.pointer (some ⟨C.g,C.i*10,none⟩)
 |2=>.agg C.x.cs
 |3=>.string ⟨C.ls.toArray⟩
 |4=>.pointer (some ⟨C.g,C.i*10,none⟩)
 |5=>.pointer (some ⟨C.g,C.i*10,none⟩)
 |6=>.pointer (some ⟨C.g,C.i*10+8,none⟩)
 |7=>.string ⟨C.x.df.toArray⟩
 |8=>.string ⟨C.sb.toArray⟩
 |9=>.string ⟨C.q.toArray⟩
 |10=>.pointer (some ⟨C.g,C.i*10,none⟩)
 |11=>.pointer (some ⟨C.g,C.i*10,none⟩)
 |12=>.agg C.x.cs
 |13=>.string ⟨C.op.toArray⟩
 |14=>.tuple #[.string ⟨C.a.toArray⟩,.string ⟨C.rs.toArray⟩,.int .i64 0]
 |15=>.tuple #[.string ⟨C.a.toArray⟩,.string ⟨C.rs.toArray⟩,.int .i64 0]
 |16=>.string ⟨C.a.toArray⟩
 |17=>.string ⟨C.rs.toArray⟩
 |18=>.int .i64 0
 |19=>.string ⟨C.a.toArray⟩
 |20=>.string ⟨C.rs.toArray⟩
 |_=>.int .i64 0
def dH2.gg(C:dH2)(_:Unit)(_:Array Bool)(W:World):Prop:=Below C.W0.heap.size C.W0 W
structure dJt(C:dH2)(t0:Array Value):Prop where
 sz:t0.size=211
 lo9:t0[9]?=some (.pointer (some ⟨C.g,C.i*10,none⟩))
 lo11:t0[11]?=some (.string ⟨C.q.toArray⟩)
 kg:C.g<C.W0.heap.size
 kx:∀j u,C.x.cs[j]?=some u->C.W0.cell? ⟨C.g,C.i*10+j,none⟩=some u
 h1:∀W,Below C.W0.heap.size C.W0 W->Calls prog 87 #[.agg C.x.cs] W fun e w'=>e=.returned (.string ⟨C.ls.toArray⟩)/\Below W.heap.size W w'
 h2:∀W,Below C.W0.heap.size C.W0 W->Calls prog 15 #[.string ⟨C.ls.toArray⟩,.string ⟨C.x.df.toArray⟩] W fun e w'=>e=.returned (.string ⟨C.sb.toArray⟩)/\Below W.heap.size W w'
 h3:∀W,Below C.W0.heap.size C.W0 W->Calls prog 68 #[.agg C.x.cs] W fun e w'=>e=.returned (.string ⟨C.op.toArray⟩)/\Below W.heap.size W w'
 h4:∀W,Below C.W0.heap.size C.W0 W->Calls prog 86 #[.string ⟨C.sb.toArray⟩,.string ⟨C.q.toArray⟩,.string ⟨C.op.toArray⟩] W fun e w'=>e=.returned (.tuple #[.string ⟨C.a.toArray⟩,.string ⟨C.rs.toArray⟩,.int .i64 0])/\Below W.heap.size W w'
section
variable {C:dH2}{t0:Array Value}{Q:Exit->Act->World->Prop}
theorem dHt(M:dJt C t0){a:Act}{w:World}(hdf:a.defers=[])(ht:a.tmps=t0)(hw:w.drewN 1=C.W0)
  (hQ:∀W,Below C.W0.heap.size C.W0 W->Q .normal { tmps:=iZ (C.val ()) dH6 t0,defers:=[] } W):(Code.region 5 dIt true).wp prog Q a w:=by
 have hsz:dIt.size=22:=by kernel_rfl
 refine dCy (ds:=dH6) (val:=C.val) (G:=C.gg) (by kernel_rfl) (by kernel_rfl) (by decide) (fun p hp=>?_) (by kernel_rfl) ?_ (γ:=()) hdf ht (by rw[hw];exact Br _ _) (fun _ _ W _ hg=>hQ W hg)
 ·rw[M.sz];have:∀p,p∈dH6->p.2<211:=by decide
  exact this p hp
 ·intro γ l a w i H hr;cases γ;have hi:i<22:=by
   obtain⟨_,o,ho,_⟩:=mem_ready.1 hr;have:=(Ai.1 ho).1;rw[hsz] at this;exact this
  have lo9:=H.low (s:=9) (by decide) M.lo9;have lo11:=H.low (s:=11) (by decide) M.lo11;have hb:=H.g
  match i,hi,hr with
  |0,_,hr =>
   exact aWj (.move (.tmp 9)) (.pointer (some ⟨C.g,C.i*10,none⟩)) (fun o h=>by simp[execOp,h,lo9,go_sem]) hb
  |1,_,hr =>
   have v0:a.tmps[46]?=some (.pointer (some ⟨C.g,C.i*10,none⟩)):=H.dep hr 0 46;exact aWj (.nilCheck (.tmp 46)) (.pointer (some ⟨C.g,C.i*10,none⟩)) (fun o h=>by simp[execOp,h,v0,go_sem]) hb
  |2,_,hr =>
   have v1:a.tmps[47]?=some (.pointer (some ⟨C.g,C.i*10,none⟩)):=H.dep hr 1 47;have hx:∀j u,C.x.cs[j]?=some u->w.cell? ⟨C.g,C.i*10+j,none⟩=some u:=fun j u hu=>(hb.cell (p:=⟨C.g,C.i*10+j,none⟩) M.kg).trans (M.kx j u hu)
   exact aWj (.load 42 (.tmp 47)) (.agg C.x.cs) (fun o h=>by exact dC4 h (by simp[Act.eval,v1]) hx underlying42 rfl (dEz _)) hb
  |3,_,hr =>
   have v2:a.tmps[48]?=some (.agg C.x.cs):=H.dep hr 2 48;refine gA (f:=87) (lb:=#[]) (c:=.func 87) (args:=#[(.tmp 48)]) (ts:=#[42]) (vs:=#[.agg C.x.cs]) (by kernel_rfl) rfl (aXb func87) (by simp[Act.eval,v2]) ((M.h1 _ hb).mono ?_);rintro e w' ⟨rfl,hb'⟩;exact⟨_,(),rfl,rfl,fun _ _=>rfl,aA hb hb'⟩
  |4,_,hr =>
   exact aWj (.move (.tmp 9)) (.pointer (some ⟨C.g,C.i*10,none⟩)) (fun o h=>by simp[execOp,h,lo9,go_sem]) hb
  |5,_,hr =>
   have v4:a.tmps[50]?=some (.pointer (some ⟨C.g,C.i*10,none⟩)):=H.dep hr 4 50;exact aWj (.nilCheck (.tmp 50)) (.pointer (some ⟨C.g,C.i*10,none⟩)) (fun o h=>by simp[execOp,h,v4,go_sem]) hb
  |6,_,hr =>
   have v5:a.tmps[51]?=some (.pointer (some ⟨C.g,C.i*10,none⟩)):=H.dep hr 5 51;exact aWj (.fieldAddr 42 (.tmp 51) 8) (.pointer (some ⟨C.g,C.i*10+8,none⟩)) (fun o h=>by simp[execOp,h,v5,go_sem]) hb
  |7,_,hr =>
   have v6:a.tmps[52]?=some (.pointer (some ⟨C.g,C.i*10+8,none⟩)):=H.dep hr 6 52;have hx:∀j u,C.x.cs[j]?=some u->w.cell? ⟨C.g,C.i*10+j,none⟩=some u:=fun j u hu=>(hb.cell (p:=⟨C.g,C.i*10+j,none⟩) M.kg).trans (M.kx j u hu)
   have h8:w.cell? ⟨C.g,C.i*10+8,none⟩=some (.string ⟨C.x.df.toArray⟩):=hx 8 _ rfl;exact aWj (.load 36 (.tmp 52)) (.string ⟨C.x.df.toArray⟩) (fun o h=>by simp[execOp,h,v6,h8,go_sem]) hb
  |8,_,hr =>
   have v3:a.tmps[49]?=some (.string ⟨C.ls.toArray⟩):=H.dep hr 3 49;have v7:a.tmps[53]?=some (.string ⟨C.x.df.toArray⟩):=H.dep hr 7 53;refine gA (f:=15) (lb:=#[]) (c:=.func 15) (args:=#[(.tmp 49),(.tmp 53)]) (ts:=#[36,36]) (vs:=#[.string ⟨C.ls.toArray⟩,.string ⟨C.x.df.toArray⟩]) (by kernel_rfl) rfl (aXb func15) (by simp[Act.eval,v3,v7]) ((M.h2 _ hb).mono ?_);rintro e w' ⟨rfl,hb'⟩;exact⟨_,(),rfl,rfl,fun _ _=>rfl,aA hb hb'⟩
  |9,_,hr =>
   exact aWj (.move (.tmp 11)) (.string ⟨C.q.toArray⟩) (fun o h=>by simp[execOp,h,lo11,go_sem]) hb
  |10,_,hr =>
   exact aWj (.move (.tmp 9)) (.pointer (some ⟨C.g,C.i*10,none⟩)) (fun o h=>by simp[execOp,h,lo9,go_sem]) hb
  |11,_,hr =>
   have v10:a.tmps[56]?=some (.pointer (some ⟨C.g,C.i*10,none⟩)):=H.dep hr 10 56;exact aWj (.nilCheck (.tmp 56)) (.pointer (some ⟨C.g,C.i*10,none⟩)) (fun o h=>by simp[execOp,h,v10,go_sem]) hb
  |12,_,hr =>
   have v11:a.tmps[57]?=some (.pointer (some ⟨C.g,C.i*10,none⟩)):=H.dep hr 11 57;have hx:∀j u,C.x.cs[j]?=some u->w.cell? ⟨C.g,C.i*10+j,none⟩=some u:=fun j u hu=>(hb.cell (p:=⟨C.g,C.i*10+j,none⟩) M.kg).trans (M.kx j u hu)
   exact aWj (.load 42 (.tmp 57)) (.agg C.x.cs) (fun o h=>by exact dC4 h (by simp[Act.eval,v11]) hx underlying42 rfl (dEz _)) hb
  |13,_,hr =>
   have v12:a.tmps[58]?=some (.agg C.x.cs):=H.dep hr 12 58;refine gA (f:=68) (lb:=#[]) (c:=.func 68) (args:=#[(.tmp 58)]) (ts:=#[42]) (vs:=#[.agg C.x.cs]) (by kernel_rfl) rfl (aXb func68) (by simp[Act.eval,v12]) ((M.h3 _ hb).mono ?_);rintro e w' ⟨rfl,hb'⟩;exact⟨_,(),rfl,rfl,fun _ _=>rfl,aA hb hb'⟩
  |14,_,hr =>
   have v8:a.tmps[54]?=some (.string ⟨C.sb.toArray⟩):=H.dep hr 8 54;have v9:a.tmps[55]?=some (.string ⟨C.q.toArray⟩):=H.dep hr 9 55;have v13:a.tmps[59]?=some (.string ⟨C.op.toArray⟩):=H.dep hr 13 59;refine gA (f:=86) (lb:=#[]) (c:=.func 86) (args:=#[(.tmp 54),(.tmp 55),(.tmp 59)]) (ts:=#[36,36,36]) (vs:=#[.string ⟨C.sb.toArray⟩,.string ⟨C.q.toArray⟩,.string ⟨C.op.toArray⟩]) (by kernel_rfl) rfl (aXb func86) (by simp[Act.eval,v8,v9,v13]) ((M.h4 _ hb).mono ?_);rintro e w' ⟨rfl,hb'⟩;exact⟨_,(),rfl,rfl,fun _ _=>rfl,aA hb hb'⟩
  |15,_,hr =>
   have v14:a.tmps[60]?=some (.tuple #[.string ⟨C.a.toArray⟩,.string ⟨C.rs.toArray⟩,.int .i64 0]):=H.dep hr 14 60;exact aWj (.move (.tmp 60)) (.tuple #[.string ⟨C.a.toArray⟩,.string ⟨C.rs.toArray⟩,.int .i64 0]) (fun o h=>by simp[execOp,h,v14,go_sem]) hb
  |16,_,hr =>
   have v15:a.tmps[45]?=some (.tuple #[.string ⟨C.a.toArray⟩,.string ⟨C.rs.toArray⟩,.int .i64 0]):=H.dep hr 15 45;exact aWj (.extract (.tmp 45) 0) (.string ⟨C.a.toArray⟩) (fun o h=>by simp[execOp,h,v15,go_sem]) hb
  |17,_,hr =>
   have v15:a.tmps[45]?=some (.tuple #[.string ⟨C.a.toArray⟩,.string ⟨C.rs.toArray⟩,.int .i64 0]):=H.dep hr 15 45;exact aWj (.extract (.tmp 45) 1) (.string ⟨C.rs.toArray⟩) (fun o h=>by simp[execOp,h,v15,go_sem]) hb
  |18,_,hr =>
   have v15:a.tmps[45]?=some (.tuple #[.string ⟨C.a.toArray⟩,.string ⟨C.rs.toArray⟩,.int .i64 0]):=H.dep hr 15 45;exact aWj (.extract (.tmp 45) 2) (.int .i64 0) (fun o h=>by simp[execOp,h,v15,go_sem]) hb
  |19,_,hr =>
   have v16:a.tmps[61]?=some (.string ⟨C.a.toArray⟩):=H.dep hr 16 61;exact aWj (.assign (.tmp 61)) (.string ⟨C.a.toArray⟩) (fun o h=>by simp[execOp,h,v16,go_sem]) hb
  |20,_,hr =>
   have v17:a.tmps[62]?=some (.string ⟨C.rs.toArray⟩):=H.dep hr 17 62;exact aWj (.assign (.tmp 62)) (.string ⟨C.rs.toArray⟩) (fun o h=>by simp[execOp,h,v17,go_sem]) hb
  |21,_,hr =>
   have v18:a.tmps[63]?=some (.int .i64 0):=H.dep hr 18 63;exact aWj (.assign (.tmp 63)) (.int .i64 0) (fun o h=>by simp[execOp,h,v18,go_sem]) hb
  |n+22,h,_=>exact absurd h (by omega)
end
noncomputable def dIs:Array Oper:=(f44.body.bind (dDa 8)).getD #[]
def dH5:List (Nat×Nat):=[(0,67),(1,68),(2,69),(3,70),(4,71),(5,72),(6,73),(7,74),(8,75),(9,76),(10,77),(11,78),(12,79),(13,80),(14,81),(15,82),(17,83),(18,84)]
structure dC5 where
 W0:World
 B0:Nat
 g:Nat
 gc:Nat
 i:Nat
 x:aLe
 gs:List aLe
 q:List UInt8
 a:List UInt8
 nr:List UInt8
 nd:List UInt8
def dC5.val(C:dC5)(_:Unit):Nat->Value
 |0=>.pointer (some ⟨C.g,C.i*10,none⟩)
 |1=>.pointer (some ⟨C.g,C.i*10,none⟩)
 |2=>.pointer (some ⟨C.g,C.i*10,none⟩)
 |3=>.pointer (some ⟨C.g,C.i*10,none⟩)
 |4=>.pointer (some ⟨C.g,C.i*10+9,none⟩)
 |5=>.string ⟨C.x.rp.toArray⟩
 |6=>.string ⟨C.q.toArray⟩
 |7=>.string ⟨C.nr.toArray⟩
 |8=>.pointer (some ⟨C.g,C.i*10,none⟩)
 |9=>.pointer (some ⟨C.g,C.i*10,none⟩)
 |10=>.pointer (some ⟨C.g,C.i*10+8,none⟩)
 |11=>.string ⟨C.x.df.toArray⟩
 |12=>.string ⟨C.a.toArray⟩
 |13=>.string ⟨C.nd.toArray⟩
 |14=>.pointer (some ⟨C.g,C.i*10,none⟩)
 |15=>.pointer (some ⟨C.g,C.i*10+9,none⟩)
 |16=>undef
 |17=>.pointer (some ⟨C.g,C.i*10,none⟩)
 |18=>.pointer (some ⟨C.g,C.i*10+8,none⟩)
 |_=>undef
def dC5.gg(C:dC5)(_:Unit)(l:Array Bool)(W:World):Prop:=C.W0.grownBy W (some C.g)/\W.ownsRow C.B0 42 10 (.slice (some ⟨C.g,0,none⟩) C.gs.length C.gc) C.gs.length (dAf aLe.cs (C.gs.set C.i { C.x with rp:=if bit l 16=true then C.nr else C.x.rp,df:=if bit l 19=true then C.nd else C.x.df }))
structure dIy(C:dC5)(t0:Array Value):Prop where
 sz:t0.size=211
 lo9:t0[9]?=some (.pointer (some ⟨C.g,C.i*10,none⟩))
 lo11:t0[11]?=some (.string ⟨C.q.toArray⟩)
 lo12:t0[12]?=some (.string ⟨C.a.toArray⟩)
 ow:C.W0.ownsRow C.B0 42 10 (.slice (some ⟨C.g,0,none⟩) C.gs.length C.gc) C.gs.length (dAf aLe.cs C.gs)
 hx:C.gs[C.i]?=some C.x
 h1:∀W,C.W0.grownBy W (some C.g)->Calls prog 18 #[.string ⟨C.x.rp.toArray⟩,.string ⟨C.q.toArray⟩] W fun e w'=>e=.returned (.string ⟨C.nr.toArray⟩)/\Below W.heap.size W w'
 h2:∀W,C.W0.grownBy W (some C.g)->Calls prog 18 #[.string ⟨C.x.df.toArray⟩,.string ⟨C.a.toArray⟩] W fun e w'=>e=.returned (.string ⟨C.nd.toArray⟩)/\Below W.heap.size W w'
theorem dC5.keep{C:dC5}{l:Array Bool}{w:World}{i:Nat}(h:C.gg () l w)(h1:i≠16)(h2:i≠19):C.gg () (l.setIfInBounds i true) w:=by
 unfold dC5.gg;rw[dCr h1,dCr h2];exact h
theorem dEp{α:Type}{l:List α}{i:Nat}{x y:α}(h:l[i]?=some x):(l.set i y)[i]?=some y:=by
 have:=(Li.1 h).1;simp[this]
theorem dIl{α:Type}{l:List α}{i:Nat}{x y:α}(h:l[i]?=some x)(e:y=x):l.set i y=l:=by
 subst e;apply List.ext_getElem?;intro j;rw[List.getElem?_set];split
 ·rename_i e;subst e;have:=(Li.1 h).1;rw[if_pos this,h]
 ·rfl
theorem dC5.cell{C:dC5}{t0:Array Value}(M:dIy C t0){l:Array Bool}{w:World}(h:C.gg () l w)(j:Nat)(hj:j<10):(∃u,w.cell? ⟨C.g,C.i*10+j,none⟩=some u)/\w.frozen? ⟨C.g,C.i*10+j,none⟩=false:=by
 have h2:=dEu h.2 rfl;obtain⟨g',cap',e,_,_,_,hc,ht,_⟩:=dDo dC3 h2 (dEp M.hx);injection e with e1 e2 e3
 injection e1 with e1
 injection e1 with e1
 subst e1;refine⟨?_,(ht j hj).2⟩;obtain⟨u,hu⟩:=Option.isSome_iff_exists.1 (ht j hj).1;exact⟨u,hu⟩
theorem dC5.cells{C:dC5}{t0:Array Value}(M:dIy C t0){l:Array Bool}{w:World}(h:C.gg () l w):(bit l 16=false->w.cell? ⟨C.g,C.i*10+9,none⟩=some (.string ⟨C.x.rp.toArray⟩))/\(bit l 19=false->w.cell? ⟨C.g,C.i*10+8,none⟩=some (.string ⟨C.x.df.toArray⟩)):=by
 have h2:=dEu h.2 rfl;obtain⟨g',cap',e,_,_,_,hc,ht,_⟩:=dDo dC3 h2 (dEp M.hx);injection e with e1 e2 e3
 injection e1 with e1
 injection e1 with e1
 subst e1;exact⟨fun hb=>(hc 9 _ rfl).trans (by rw[hb];rfl),fun hb=>(hc 8 _ rfl).trans (by rw[hb];rfl)⟩
theorem dC5.st16{C:dC5}{t0:Array Value}(M:dIy C t0){l:Array Bool}{w:World}(h:C.gg () l w)(hs:16<l.size):C.gg () (l.setIfInBounds 16 true) (w.setCell ⟨C.g,C.i*10+9,none⟩ (.string ⟨C.nr.toArray⟩)):=by
 unfold dC5.gg;rw[dCv hs,dCr (show (16:Nat)≠19 by decide)];refine⟨h.1.trans (dCt _ _ _ _),?_⟩;have h2:=dEu h.2 rfl;have h3:=dFu dC3 h2 (k:=C.i) (j:=9) (y:={ C.x with rp:=C.nr,df:=if bit l 19=true then C.nd else C.x.df }) (u:=.string ⟨C.nr.toArray⟩) (dEp M.hx) (by decide) rfl;rw[List.set_set,List.length_set] at h3;exact h3
theorem dC5.st19{C:dC5}{t0:Array Value}(M:dIy C t0){l:Array Bool}{w:World}(h:C.gg () l w)(hs:19<l.size):C.gg () (l.setIfInBounds 19 true) (w.setCell ⟨C.g,C.i*10+8,none⟩ (.string ⟨C.nd.toArray⟩)):=by
 unfold dC5.gg;rw[dCv hs,dCr (show (19:Nat)≠16 by decide)];refine⟨h.1.trans (dCt _ _ _ _),?_⟩;have h2:=dEu h.2 rfl;have h3:=dFu dC3 h2 (k:=C.i) (j:=8) (y:={ C.x with rp:=if bit l 16=true then C.nr else C.x.rp,df:=C.nd }) (u:=.string ⟨C.nd.toArray⟩) (dEp M.hx) (by decide) rfl;rw[List.set_set,List.length_set] at h3;exact h3
section
variable {C:dC5}{t0:Array Value}{Q:Exit->Act->World->Prop}
theorem dHs(M:dIy C t0){a:Act}{w:World}(hdf:a.defers=[])(ht:a.tmps=t0)(hw:w.drewN 1=C.W0)
  (hQ:∀W,C.W0.grownBy W (some C.g)->W.ownsRow C.B0 42 10 (.slice (some ⟨C.g,0,none⟩) C.gs.length C.gc) C.gs.length (dAf aLe.cs (C.gs.set C.i { C.x with rp:=C.nr,df:=C.nd }))->Q .normal { tmps:=iZ (C.val ()) dH5 t0,defers:=[] } W):(Code.region 8 dIs true).wp prog Q a w:=by
 have hsz:dIs.size=20:=by kernel_rfl
 refine dCy (ds:=dH5) (val:=C.val) (G:=C.gg) (by kernel_rfl) (by kernel_rfl) (by decide) (fun p hp=>?_) (by kernel_rfl) ?_ (γ:=()) hdf ht (by rw[hw];exact⟨World.grownBy.refl _ _,by rw[dC0,dC0];show C.W0.ownsRow C.B0 42 10 (.slice (some ⟨C.g,0,none⟩) C.gs.length C.gc) C.gs.length (dAf aLe.cs (C.gs.set C.i C.x));rw[dIl M.hx rfl];exact M.ow⟩) (fun γ l W hall hg=>hQ W hg.1 (by have h:=hg.2;rw[show bit l 16=true from hall 16 (by rw[hsz];decide),show bit l 19=true from hall 19 (by rw[hsz];decide)] at h;exact h))
 ·rw[M.sz];have:∀p,p∈dH5->p.2<211:=by decide
  exact this p hp
 ·intro γ l a w i H hr;cases γ;have hi:i<20:=by
   obtain⟨_,o,ho,_⟩:=mem_ready.1 hr;have:=(Ai.1 ho).1;rw[hsz] at this;exact this
  have lo9:=H.low (s:=9) (by decide) M.lo9;have lo11:=H.low (s:=11) (by decide) M.lo11;have lo12:=H.low (s:=12) (by decide) M.lo12;have hb:=H.g
  match i,hi,hr with
  |0,_,hr =>
   exact aWj (.move (.tmp 9)) (.pointer (some ⟨C.g,C.i*10,none⟩)) (fun o h=>by simp[execOp,h,lo9,go_sem]) (dC5.keep H.g (by decide) (by decide))
  |1,_,hr =>
   exact aWj (.move (.tmp 9)) (.pointer (some ⟨C.g,C.i*10,none⟩)) (fun o h=>by simp[execOp,h,lo9,go_sem]) (dC5.keep H.g (by decide) (by decide))
  |2,_,hr =>
   exact aWj (.move (.tmp 9)) (.pointer (some ⟨C.g,C.i*10,none⟩)) (fun o h=>by simp[execOp,h,lo9,go_sem]) (dC5.keep H.g (by decide) (by decide))
  |3,_,hr =>
   have v2:a.tmps[69]?=some (.pointer (some ⟨C.g,C.i*10,none⟩)):=H.dep hr 2 69;exact aWj (.nilCheck (.tmp 69)) (.pointer (some ⟨C.g,C.i*10,none⟩)) (fun o h=>by simp[execOp,h,v2,go_sem]) (dC5.keep H.g (by decide) (by decide))
  |4,_,hr =>
   have v3:a.tmps[70]?=some (.pointer (some ⟨C.g,C.i*10,none⟩)):=H.dep hr 3 70;exact aWj (.fieldAddr 42 (.tmp 70) 9) (.pointer (some ⟨C.g,C.i*10+9,none⟩)) (fun o h=>by simp[execOp,h,v3,go_sem]) (dC5.keep H.g (by decide) (by decide))
  |5,_,hr =>
   have v4:a.tmps[71]?=some (.pointer (some ⟨C.g,C.i*10+9,none⟩)):=H.dep hr 4 71;have f5:=dCq hr;have f7:=H.off 5 7 f5;have f16:=H.off 7 16 f7;have hc:=(dC5.cells M hb).1 f16;exact aWj (.load 36 (.tmp 71)) (.string ⟨C.x.rp.toArray⟩) (fun o h=>by simp[execOp,h,v4,hc,go_sem]) (dC5.keep H.g (by decide) (by decide))
  |6,_,hr =>
   exact aWj (.move (.tmp 11)) (.string ⟨C.q.toArray⟩) (fun o h=>by simp[execOp,h,lo11,go_sem]) (dC5.keep H.g (by decide) (by decide))
  |7,_,hr =>
   have v5:a.tmps[72]?=some (.string ⟨C.x.rp.toArray⟩):=H.dep hr 5 72;have v6:a.tmps[73]?=some (.string ⟨C.q.toArray⟩):=H.dep hr 6 73;refine gA (f:=18) (lb:=#[]) (c:=.func 18) (args:=#[(.tmp 72),(.tmp 73)]) (ts:=#[36,36]) (vs:=#[.string ⟨C.x.rp.toArray⟩,.string ⟨C.q.toArray⟩]) (by kernel_rfl) rfl (aXb func18) (by simp[Act.eval,v5,v6]) ((M.h1 _ hb.1).mono ?_);rintro e w' ⟨rfl,hb'⟩;exact⟨_,(),rfl,rfl,fun _ _=>rfl,dC5.keep ⟨hb.1.trans (dDq _ hb'),(dCk.of_below _ hb').owns hb.2⟩ (by decide) (by decide)⟩
  |8,_,hr =>
   exact aWj (.move (.tmp 9)) (.pointer (some ⟨C.g,C.i*10,none⟩)) (fun o h=>by simp[execOp,h,lo9,go_sem]) (dC5.keep H.g (by decide) (by decide))
  |9,_,hr =>
   have v8:a.tmps[75]?=some (.pointer (some ⟨C.g,C.i*10,none⟩)):=H.dep hr 8 75;exact aWj (.nilCheck (.tmp 75)) (.pointer (some ⟨C.g,C.i*10,none⟩)) (fun o h=>by simp[execOp,h,v8,go_sem]) (dC5.keep H.g (by decide) (by decide))
  |10,_,hr =>
   have v9:a.tmps[76]?=some (.pointer (some ⟨C.g,C.i*10,none⟩)):=H.dep hr 9 76;exact aWj (.fieldAddr 42 (.tmp 76) 8) (.pointer (some ⟨C.g,C.i*10+8,none⟩)) (fun o h=>by simp[execOp,h,v9,go_sem]) (dC5.keep H.g (by decide) (by decide))
  |11,_,hr =>
   have v10:a.tmps[77]?=some (.pointer (some ⟨C.g,C.i*10+8,none⟩)):=H.dep hr 10 77;have f11:=dCq hr;have f13:=H.off 11 13 f11;have f19:=H.off 13 19 f13;have hc:=(dC5.cells M hb).2 f19;exact aWj (.load 36 (.tmp 77)) (.string ⟨C.x.df.toArray⟩) (fun o h=>by simp[execOp,h,v10,hc,go_sem]) (dC5.keep H.g (by decide) (by decide))
  |12,_,hr =>
   exact aWj (.move (.tmp 12)) (.string ⟨C.a.toArray⟩) (fun o h=>by simp[execOp,h,lo12,go_sem]) (dC5.keep H.g (by decide) (by decide))
  |13,_,hr =>
   have v11:a.tmps[78]?=some (.string ⟨C.x.df.toArray⟩):=H.dep hr 11 78;have v12:a.tmps[79]?=some (.string ⟨C.a.toArray⟩):=H.dep hr 12 79;refine gA (f:=18) (lb:=#[]) (c:=.func 18) (args:=#[(.tmp 78),(.tmp 79)]) (ts:=#[36,36]) (vs:=#[.string ⟨C.x.df.toArray⟩,.string ⟨C.a.toArray⟩]) (by kernel_rfl) rfl (aXb func18) (by simp[Act.eval,v11,v12]) ((M.h2 _ hb.1).mono ?_);rintro e w' ⟨rfl,hb'⟩;exact⟨_,(),rfl,rfl,fun _ _=>rfl,dC5.keep ⟨hb.1.trans (dDq _ hb'),(dCk.of_below _ hb').owns hb.2⟩ (by decide) (by decide)⟩
  |14,_,hr =>
   have v0:a.tmps[67]?=some (.pointer (some ⟨C.g,C.i*10,none⟩)):=H.dep hr 0 67;exact aWj (.nilCheck (.tmp 67)) (.pointer (some ⟨C.g,C.i*10,none⟩)) (fun o h=>by simp[execOp,h,v0,go_sem]) (dC5.keep H.g (by decide) (by decide))
  |15,_,hr =>
   have v14:a.tmps[81]?=some (.pointer (some ⟨C.g,C.i*10,none⟩)):=H.dep hr 14 81;exact aWj (.fieldAddr 42 (.tmp 81) 9) (.pointer (some ⟨C.g,C.i*10+9,none⟩)) (fun o h=>by simp[execOp,h,v14,go_sem]) (dC5.keep H.g (by decide) (by decide))
  |16,_,hr =>
   have v7:a.tmps[74]?=some (.string ⟨C.nr.toArray⟩):=H.dep hr 7 74;have v15:a.tmps[82]?=some (.pointer (some ⟨C.g,C.i*10+9,none⟩)):=H.dep hr 15 82;exact aH0 (X:=.store 36 (.tmp 82) (.tmp 74)) (by kernel_rfl) (fun o h=>by obtain⟨⟨u,c⟩,fz⟩:=dC5.cell M hb 9 (by decide);simp[execOp,h,v15,v7,c,fz,go_sem]) (dC5.st16 M hb (by rw[H.sz,hsz];decide))
  |17,_,hr =>
   have v1:a.tmps[68]?=some (.pointer (some ⟨C.g,C.i*10,none⟩)):=H.dep hr 1 68;exact aWj (.nilCheck (.tmp 68)) (.pointer (some ⟨C.g,C.i*10,none⟩)) (fun o h=>by simp[execOp,h,v1,go_sem]) (dC5.keep H.g (by decide) (by decide))
  |18,_,hr =>
   have v17:a.tmps[83]?=some (.pointer (some ⟨C.g,C.i*10,none⟩)):=H.dep hr 17 83;exact aWj (.fieldAddr 42 (.tmp 83) 8) (.pointer (some ⟨C.g,C.i*10+8,none⟩)) (fun o h=>by simp[execOp,h,v17,go_sem]) (dC5.keep H.g (by decide) (by decide))
  |19,_,hr =>
   have v13:a.tmps[80]?=some (.string ⟨C.nd.toArray⟩):=H.dep hr 13 80;have v18:a.tmps[84]?=some (.pointer (some ⟨C.g,C.i*10+8,none⟩)):=H.dep hr 18 84;exact aH0 (X:=.store 36 (.tmp 84) (.tmp 80)) (by kernel_rfl) (fun o h=>by obtain⟨⟨u,c⟩,fz⟩:=dC5.cell M hb 8 (by decide);simp[execOp,h,v18,v13,c,fz,go_sem]) (dC5.st19 M hb (by rw[H.sz,hsz];decide))
  |n+20,h,_=>exact absurd h (by omega)
end
noncomputable def dH8:Array Oper:=(f44.body.bind (dDa 18)).getD #[]
def dGz:List (Nat×Nat):=[(0,139),(1,140),(2,141),(3,142),(4,143),(5,144),(6,145),(8,146)]
structure dC9 where
 W0:World
 b:Nat
 z:Bd
 a:List UInt8
 nc:List UInt8
def dC9.val(C:dC9)(_:Unit):Nat->Value
 |0=>.pointer (some ⟨C.b,5,none⟩)
 |1=>.string ⟨C.z.c.toArray⟩
 |2=>.string ⟨C.a.toArray⟩
 |3=>.string ⟨C.nc.toArray⟩
 |4=>.pointer (some ⟨C.b,4,none⟩)
 |5=>.string ⟨C.z.q.toArray⟩
 |6=>.pointer (some ⟨C.b,5,none⟩)
 |7=>undef
 |8=>.pointer (some ⟨C.b,6,none⟩)
 |_=>undef
def dC9.gg(C:dC9)(_:Unit)(l:Array Bool)(W:World):Prop:=C.W0.grownBy W (some C.b)/\aP W C.b (Bd.cs { C.z with c:=if bit l 7=true then C.nc else C.z.c,u:=if bit l 9=true then C.z.q else C.z.u }) 49
structure dJn(C:dC9)(t0:Array Value):Prop where
 sz:t0.size=211
 lo10:t0[10]?=some (.pointer (some ⟨C.b,0,none⟩))
 lo12:t0[12]?=some (.string ⟨C.a.toArray⟩)
 kz:aP C.W0 C.b C.z.cs 49
 h1:∀W,C.W0.grownBy W (some C.b)->Calls prog 18 #[.string ⟨C.z.c.toArray⟩,.string ⟨C.a.toArray⟩] W fun e w'=>e=.returned (.string ⟨C.nc.toArray⟩)/\Below W.heap.size W w'
theorem dC9.keep{C:dC9}{l:Array Bool}{w:World}{i:Nat}(h:C.gg () l w)(h1:i≠7)(h2:i≠9):C.gg () (l.setIfInBounds i true) w:=by
 unfold dC9.gg;rw[dCr h1,dCr h2];exact h
theorem dC9.st7{C:dC9}{l:Array Bool}{w:World}(h:C.gg () l w)(hs:7<l.size):C.gg () (l.setIfInBounds 7 true) (w.setCell ⟨C.b,5,none⟩ (.string ⟨C.nc.toArray⟩)):=by
 unfold dC9.gg;rw[dCv hs,dCr (show (7:Nat)≠9 by decide)];exact⟨h.1.trans (dCt _ _ _ _),h.2.setC (i:=5) (v:=.string ⟨C.nc.toArray⟩)⟩
theorem dC9.st9{C:dC9}{l:Array Bool}{w:World}(h:C.gg () l w)(hs:9<l.size):C.gg () (l.setIfInBounds 9 true) (w.setCell ⟨C.b,6,none⟩ (.string ⟨C.z.q.toArray⟩)):=by
 unfold dC9.gg;rw[dCv hs,dCr (show (9:Nat)≠7 by decide)];exact⟨h.1.trans (dCt _ _ _ _),h.2.setC (i:=6) (v:=.string ⟨C.z.q.toArray⟩)⟩
section
variable {C:dC9}{t0:Array Value}{Q:Exit->Act->World->Prop}
theorem dHb(M:dJn C t0){a:Act}{w:World}(hdf:a.defers=[])(ht:a.tmps=t0)(hw:w.drewN 1=C.W0)
  (hQ:∀W,C.W0.grownBy W (some C.b)->aP W C.b (Bd.cs { C.z with c:=C.nc,u:=C.z.q }) 49->Q .normal { tmps:=iZ (C.val ()) dGz t0,defers:=[] } W):(Code.region 18 dH8 true).wp prog Q a w:=by
 have hsz:dH8.size=10:=by kernel_rfl
 refine dCy (ds:=dGz) (val:=C.val) (G:=C.gg) (by kernel_rfl) (by kernel_rfl) (by decide) (fun p hp=>?_) (by kernel_rfl) ?_ (γ:=()) hdf ht (by rw[hw];exact⟨World.grownBy.refl _ _,by rw[dC0,dC0];exact M.kz⟩) (fun γ l W hall hg=>hQ W hg.1 (by have h:=hg.2;rw[show bit l 7=true from hall 7 (by rw[hsz];decide),show bit l 9=true from hall 9 (by rw[hsz];decide)] at h;exact h))
 ·rw[M.sz];have:∀p,p∈dGz->p.2<211:=by decide
  exact this p hp
 ·intro γ l a w i H hr;cases γ;have hi:i<10:=by
   obtain⟨_,o,ho,_⟩:=mem_ready.1 hr;have:=(Ai.1 ho).1;rw[hsz] at this;exact this
  have lo10:=H.low (s:=10) (by decide) M.lo10;have lo12:=H.low (s:=12) (by decide) M.lo12;have hb:=H.g
  match i,hi,hr with
  |0,_,hr =>
   exact aWj (.fieldAddr 49 (.tmp 10) 5) (.pointer (some ⟨C.b,5,none⟩)) (fun o h=>by simp[execOp,h,lo10,go_sem]) (dC9.keep H.g (by decide) (by decide))
  |1,_,hr =>
   have v0:a.tmps[139]?=some (.pointer (some ⟨C.b,5,none⟩)):=H.dep hr 0 139;have f1:=dCq hr;have f3:=H.off 1 3 f1;have f7:=H.off 3 7 f3;have hc:w.cell? ⟨C.b,5,none⟩=some (.string ⟨C.z.c.toArray⟩):=(hb.2.cell 5).trans (by rw[f7];rfl);exact aWj (.load 36 (.tmp 139)) (.string ⟨C.z.c.toArray⟩) (fun o h=>by simp[execOp,h,v0,hc,go_sem]) (dC9.keep H.g (by decide) (by decide))
  |2,_,hr =>
   exact aWj (.move (.tmp 12)) (.string ⟨C.a.toArray⟩) (fun o h=>by simp[execOp,h,lo12,go_sem]) (dC9.keep H.g (by decide) (by decide))
  |3,_,hr =>
   have v1:a.tmps[140]?=some (.string ⟨C.z.c.toArray⟩):=H.dep hr 1 140;have v2:a.tmps[141]?=some (.string ⟨C.a.toArray⟩):=H.dep hr 2 141;refine gA (f:=18) (lb:=#[]) (c:=.func 18) (args:=#[(.tmp 140),(.tmp 141)]) (ts:=#[36,36]) (vs:=#[.string ⟨C.z.c.toArray⟩,.string ⟨C.a.toArray⟩]) (by kernel_rfl) rfl (aXb func18) (by simp[Act.eval,v1,v2]) ((M.h1 _ hb.1).mono ?_);rintro e w' ⟨rfl,hb'⟩;exact⟨_,(),rfl,rfl,fun _ _=>rfl,dC9.keep ⟨hb.1.trans (dDq _ hb'),hb.2.below hb'⟩ (by decide) (by decide)⟩
  |4,_,hr =>
   exact aWj (.fieldAddr 49 (.tmp 10) 4) (.pointer (some ⟨C.b,4,none⟩)) (fun o h=>by simp[execOp,h,lo10,go_sem]) (dC9.keep H.g (by decide) (by decide))
  |5,_,hr =>
   have v4:a.tmps[143]?=some (.pointer (some ⟨C.b,4,none⟩)):=H.dep hr 4 143;have hc:w.cell? ⟨C.b,4,none⟩=some (.string ⟨C.z.q.toArray⟩):=hb.2.cell 4;exact aWj (.load 36 (.tmp 143)) (.string ⟨C.z.q.toArray⟩) (fun o h=>by simp[execOp,h,v4,hc,go_sem]) (dC9.keep H.g (by decide) (by decide))
  |6,_,hr =>
   exact aWj (.fieldAddr 49 (.tmp 10) 5) (.pointer (some ⟨C.b,5,none⟩)) (fun o h=>by simp[execOp,h,lo10,go_sem]) (dC9.keep H.g (by decide) (by decide))
  |7,_,hr =>
   have v3:a.tmps[142]?=some (.string ⟨C.nc.toArray⟩):=H.dep hr 3 142;have v6:a.tmps[145]?=some (.pointer (some ⟨C.b,5,none⟩)):=H.dep hr 6 145;have hc:=hb.2.cell 5;have fz:=aR hb.2.2 5;exact aH0 (X:=.store 36 (.tmp 145) (.tmp 142)) (by kernel_rfl) (fun o h=>by simp[execOp,h,v6,v3,hc,fz,Bd.cs,go_sem]) (dC9.st7 hb (by rw[H.sz,hsz];decide))
  |8,_,hr =>
   exact aWj (.fieldAddr 49 (.tmp 10) 6) (.pointer (some ⟨C.b,6,none⟩)) (fun o h=>by simp[execOp,h,lo10,go_sem]) (dC9.keep H.g (by decide) (by decide))
  |9,_,hr =>
   have v5:a.tmps[144]?=some (.string ⟨C.z.q.toArray⟩):=H.dep hr 5 144;have v8:a.tmps[146]?=some (.pointer (some ⟨C.b,6,none⟩)):=H.dep hr 8 146;have hc:=hb.2.cell 6;have fz:=aR hb.2.2 6;exact aH0 (X:=.store 36 (.tmp 146) (.tmp 144)) (by kernel_rfl) (fun o h=>by simp[execOp,h,v8,v5,hc,fz,Bd.cs,go_sem]) (dC9.st9 hb (by rw[H.sz,hsz];decide))
  |n+10,h,_=>exact absurd h (by omega)
end
noncomputable def dH7:Array Oper:=(f44.body.bind (dDa 26)).getD #[]
def dGy:List (Nat×Nat):=[(0,196),(1,197),(2,198),(3,199),(4,200),(5,201),(6,195),(7,202),(8,203),(9,20),(10,14)]
structure dDh where
 W0:World
 sb:Nat
 lv:Value
 gv:Value
 tv:Value
 sv:Value
 b:Nat
 z:Bd
 R:Value->Int->World->Prop
def dDh.val(C:dDh)(γ:Value×Int):Nat->Value
 |0=>.pointer (some ⟨C.sb,0,none⟩)
 |1=>.pointer (some ⟨C.sb,0,none⟩)
 |2=>.pointer (some ⟨C.sb,0,none⟩)
 |3=>C.lv
 |4=>.agg C.z.cs
 |5=>.tuple #[γ.1,.int .i64 γ.2]
 |6=>.tuple #[γ.1,.int .i64 γ.2]
 |7=>γ.1
 |8=>.int .i64 γ.2
 |9=>γ.1
 |10=>.int .i64 γ.2
 |_=>undef
def dDh.gg(C:dDh)(γ:Value×Int)(l:Array Bool)(W:World):Prop:=Below C.W0.heap.size C.W0 W/\(bit l 5=true->C.R γ.1 γ.2 W)
structure dJm(C:dDh)(t0:Array Value):Prop where
 sz:t0.size=211
 lo0:t0[0]?=some (.pointer (some ⟨C.sb,0,none⟩))
 lo10:t0[10]?=some (.pointer (some ⟨C.b,0,none⟩))
 kb:aP C.W0 C.sb #[C.lv,C.gv,C.tv,C.sv] 80
 kz:aP C.W0 C.b C.z.cs 49
 h1:∀W,Below C.W0.heap.size C.W0 W->Calls prog 91 #[C.lv,.agg C.z.cs] W fun e w'=>(∃v n,e=.returned (.tuple #[v,.int .i64 n])/\C.R v n w')/\Below W.heap.size W w'
theorem dDh.keep{C:dDh}{γ:Value×Int}{l:Array Bool}{w:World}{i:Nat}(h:C.gg γ l w)(h1:i≠5):C.gg γ (l.setIfInBounds i true) w:=by
 unfold dDh.gg;rw[dCr h1];exact h
section
variable {C:dDh}{t0:Array Value}{Q:Exit->Act->World->Prop}
theorem dG9(M:dJm C t0){a:Act}{w:World}(hdf:a.defers=[])(ht:a.tmps=t0)(hw:w.drewN 1=C.W0)
  (hQ:∀ γ W,Below C.W0.heap.size C.W0 W->C.R γ.1 γ.2 W->Q .normal { tmps:=iZ (C.val γ) dGy t0,defers:=[] } W):(Code.region 26 dH7 true).wp prog Q a w:=by
 have hsz:dH7.size=11:=by kernel_rfl
 refine dCy (ds:=dGy) (val:=C.val) (G:=C.gg) (by kernel_rfl) (by kernel_rfl) (by decide) (fun p hp=>?_) (by kernel_rfl) ?_ (γ:=(.bool false,0)) hdf ht (by rw[hw];exact⟨Br _ _,fun h=>by rw[dC0] at h;cases h⟩) (fun γ l W hall hg=>hQ γ W hg.1 (hg.2 (hall 5 (by rw[hsz];decide))))
 ·rw[M.sz];have:∀p,p∈dGy->p.2<211:=by decide
  exact this p hp
 ·intro γ l a w i H hr;have hi:i<11:=by
   obtain⟨_,o,ho,_⟩:=mem_ready.1 hr;have:=(Ai.1 ho).1;rw[hsz] at this;exact this
  have lo0:=H.low (s:=0) (by decide) M.lo0;have lo10:=H.low (s:=10) (by decide) M.lo10;have hb:=H.g
  match i,hi,hr with
  |0,_,hr =>
   exact aWj (.move (.tmp 0)) (.pointer (some ⟨C.sb,0,none⟩)) (fun o h=>by simp[execOp,h,lo0,go_sem]) (dDh.keep H.g (by decide))
  |1,_,hr =>
   have v0:a.tmps[196]?=some (.pointer (some ⟨C.sb,0,none⟩)):=H.dep hr 0 196;exact aWj (.nilCheck (.tmp 196)) (.pointer (some ⟨C.sb,0,none⟩)) (fun o h=>by simp[execOp,h,v0,go_sem]) (dDh.keep H.g (by decide))
  |2,_,hr =>
   have v1:a.tmps[197]?=some (.pointer (some ⟨C.sb,0,none⟩)):=H.dep hr 1 197;exact aWj (.fieldAddr 80 (.tmp 197) 0) (.pointer (some ⟨C.sb,0,none⟩)) (fun o h=>by simp[execOp,h,v1,go_sem]) (dDh.keep H.g (by decide))
  |3,_,hr =>
   have v2:a.tmps[198]?=some (.pointer (some ⟨C.sb,0,none⟩)):=H.dep hr 2 198;have kb:=(M.kb.overW hb.1 M.kb.1).cell 0;have kb:w.cell? ⟨C.sb,0,none⟩=some C.lv:=kb;exact aWj (.load 22 (.tmp 198)) (C.lv) (fun o h=>by simp[execOp,h,v2,kb,go_sem]) (dDh.keep H.g (by decide))
  |4,_,hr =>
   have hk:=(M.kz.overW hb.1 M.kz.1).at0;exact aWj (.load 49 (.tmp 10)) (.agg C.z.cs) (fun o h=>by exact dC4 h (by simp[Act.eval,lo10]) hk underlying49 rfl (dF7 _)) (dDh.keep H.g (by decide))
  |5,_,hr =>
   have v3:a.tmps[199]?=some (C.lv):=H.dep hr 3 199;have v4:a.tmps[200]?=some (.agg C.z.cs):=H.dep hr 4 200;have f5:=dCq hr;refine gA (f:=91) (lb:=#[]) (c:=.func 91) (args:=#[.tmp 199,.tmp 200]) (ts:=#[22,49]) (vs:=#[C.lv,.agg C.z.cs]) (by kernel_rfl) rfl (aXb func91) (by simp[Act.eval,v3,v4]) ((M.h1 _ hb.1).mono ?_);rintro e w' ⟨⟨v,n,rfl,hR⟩,hb'⟩;refine⟨_,(v,n),rfl,rfl,fun j hj=>?_,?_⟩
   ·match j,hj with
    |5,hj=>exact absurd hj (by rw[show lP l 5=(bit l 5=true) from rfl,f5];decide)
    |6,hj=>exact absurd hj (by rw[show lP l 6=(bit l 6=true) from rfl,H.off 5 6 f5];decide)
    |7,hj=>exact absurd hj (by rw[show lP l 7=(bit l 7=true) from rfl,H.off 6 7 (H.off 5 6 f5)];decide)
    |8,hj=>exact absurd hj (by rw[show lP l 8=(bit l 8=true) from rfl,H.off 6 8 (H.off 5 6 f5)];decide)
    |9,hj=>exact absurd hj (by rw[show lP l 9=(bit l 9=true) from rfl,H.off 7 9 (H.off 6 7 (H.off 5 6 f5))];decide)
    |10,hj=>exact absurd hj (by rw[show lP l 10=(bit l 10=true) from rfl,H.off 8 10 (H.off 6 8 (H.off 5 6 f5))];decide)
    |0,_|1,_|2,_|3,_|4,_=>rfl
    |_+11,_=>rfl
   ·unfold dDh.gg;rw[dCv (by rw[H.sz,hsz];decide)];exact⟨aA hb.1 hb',fun _=>hR⟩
  |6,_,hr =>
   have v5:a.tmps[201]?=some (.tuple #[γ.1,.int .i64 γ.2]):=H.dep hr 5 201;exact aWj (.move (.tmp 201)) (.tuple #[γ.1,.int .i64 γ.2]) (fun o h=>by simp[execOp,h,v5,go_sem]) (dDh.keep H.g (by decide))
  |7,_,hr =>
   have v6:a.tmps[195]?=some (.tuple #[γ.1,.int .i64 γ.2]):=H.dep hr 6 195;exact aWj (.extract (.tmp 195) 0) (γ.1) (fun o h=>by simp[execOp,h,v6,go_sem]) (dDh.keep H.g (by decide))
  |8,_,hr =>
   have v6:a.tmps[195]?=some (.tuple #[γ.1,.int .i64 γ.2]):=H.dep hr 6 195;exact aWj (.extract (.tmp 195) 1) (.int .i64 γ.2) (fun o h=>by simp[execOp,h,v6,go_sem]) (dDh.keep H.g (by decide))
  |9,_,hr =>
   have v7:a.tmps[202]?=some (γ.1):=H.dep hr 7 202;exact aWj (.assign (.tmp 202)) (γ.1) (fun o h=>by simp[execOp,h,v7,go_sem]) (dDh.keep H.g (by decide))
  |10,_,hr =>
   have v8:a.tmps[203]?=some (.int .i64 γ.2):=H.dep hr 8 203;exact aWj (.assign (.tmp 203)) (.int .i64 γ.2) (fun o h=>by simp[execOp,h,v8,go_sem]) (dDh.keep H.g (by decide))
  |n+11,h,_=>exact absurd h (by omega)
end
end Go.Proofs.YtiloklnjjfaagaaGreatDoor
