/- WRepl2 -/
import Derived.Test.YtiloklnjjfaagaaGreatDoorVB
import Derived.Test.YtiloklnjjfaagaaGreatDoorVA
set_option maxHeartbeats 16000000
set_option maxRecDepth 100000
namespace Go.Proofs.YtiloklnjjfaagaaGreatDoor
open Go.Proofs.Tryz
open Go Go.RowKit Num
def dIp:Value:=.agg #[.string ⟨#[]⟩,.string ⟨#[]⟩,.string ⟨#[]⟩,.string ⟨#[]⟩,.string ⟨#[]⟩,.string ⟨#[]⟩]
theorem dHo:(prog.info? 45).map (fun i=>(i.zero,i.size,i.bytes))=some (some dIp,6,96):=by kernel_rfl
theorem dGq{x:bZ9}{u:Value}(h:u∈x.cs.toList):u.oneCell'=true:=by
 have:=dHh x;rw[<-Array.all_toList,List.all_eq_true] at this;exact this u h
theorem dEq{o:Oper}{a:Act}{w:World}{x y:Nat}(ho:o.op=.store 27 (.tmp x) (.tmp y)){b f:Nat}(hx:a.tmps[x]?=some (.pointer (some ⟨b,f,none⟩))){v u:Value}(hy:a.tmps[y]?=some v){base e s m:Nat}{xs:List Value}{wr:World}(hv:wr.ownsRow base e s v m xs)(h1:w.cell? ⟨b,f,none⟩=some u)(h2:w.frozen? ⟨b,f,none⟩=false):
  (execOp a.eval o).run prog w=.ok .skip (w.setCell ⟨b,f,none⟩ v):=by
 rcases hv.2 with⟨rfl,_⟩|⟨g,cap,cur,rfl,_⟩
 ·simp[execOp,ho,hx,hy,h1,h2,go_sem]
 ·simp[execOp,ho,hx,hy,h1,h2,go_sem]
noncomputable def dFi:Array Oper:=(f44.body.bind (dDa 16)).getD #[]
def dGc:List (Nat×Nat):=[(0,112),(1,113),(2,114),(3,115),(4,116),(5,117),(6,118),(7,119),(8,120),(9,121),(10,122),(11,123),(12,124),(13,125),(14,126),(15,127),(16,128),(17,129),(18,130)]
structure dCu where
 W0:World
 B0:Nat
 sb:Nat
 lv:Value
 gv:Value
 tv:Value
 sv:Value
 steps:List bZ9
 st:bZ9
 b:Nat
 z:Bd
 b16:Nat
 pz:Bd
 cause:List UInt8
 q:List UInt8
def dCu.val(C:dCu)(γ:Value×World):Nat->Value
 |0=>.pointer (some ⟨C.sb,0,none⟩)
 |1=>.pointer (some ⟨C.sb,0,none⟩)
 |2=>.pointer (some ⟨C.sb,0,none⟩)
 |3=>.pointer (some ⟨C.sb,2,none⟩)
 |4=>C.tv
 |5=>.string ⟨C.cause.toArray⟩
 |6=>.pointer (some ⟨C.b,0,none⟩)
 |7=>.string ⟨C.z.id.toArray⟩
 |8=>.pointer (some ⟨C.b16,0,none⟩)
 |9=>.string ⟨C.pz.id.toArray⟩
 |10=>.string ⟨C.q.toArray⟩
 |11=>.string ⟨C.q.toArray⟩
 |12=>.pointer (some ⟨C.b16,5,none⟩)
 |13=>.string ⟨C.pz.c.toArray⟩
 |14=>.agg C.st.cs
 |15=>.slice (some ⟨C.W0.heap.size,0,none⟩) 1 1
 |16=>γ.1
 |17=>.pointer (some ⟨C.sb,0,none⟩)
 |18=>.pointer (some ⟨C.sb,2,none⟩)
 |19=>undef
 |_=>undef
def dCu.gg(C:dCu)(γ:Value×World)(l:Array Bool)(W:World):Prop:=(bit l 15=false->W=C.W0)/\(bit l 15=true->bit l 16=false->W=(C.W0.alloc (.cells C.st.cs 45)))/\(bit l 16=true->(γ.2.ownsRow C.B0 45 6 γ.1 (C.steps.length+1) (dAf bZ9.cs C.steps++C.st.cs.toList)/\(C.W0.alloc (.cells C.st.cs 45)).grownBy γ.2 C.tv.ownBlock)/\(bit l 19=false->W = γ.2)/\(bit l 19=true->W = γ.2.setCell ⟨C.sb,2,none⟩ γ.1))
structure dJb(C:dCu)(t0:Array Value):Prop where
 sz:t0.size=211
 lo0:t0[0]?=some (.pointer (some ⟨C.sb,0,none⟩))
 lo3:t0[3]?=some (.string ⟨C.cause.toArray⟩)
 lo10:t0[10]?=some (.pointer (some ⟨C.b,0,none⟩))
 lo11:t0[11]?=some (.string ⟨C.q.toArray⟩)
 lo16:t0[16]?=some (.pointer (some ⟨C.b16,0,none⟩))
 kb:aP C.W0 C.sb #[C.lv,C.gv,C.tv,C.sv] 80
 kz:aP C.W0 C.b C.z.cs 49
 ow:C.W0.ownsRow C.B0 45 6 C.tv C.steps.length (dAf bZ9.cs C.steps)
 hB:C.B0<=C.W0.heap.size
 hn:C.steps.length<=1000000
 kp:aP C.W0 C.b16 C.pz.cs 49
 hs:C.st=⟨C.cause,C.z.id,C.pz.id,C.q,C.q,C.pz.c⟩
theorem dCu.keep{C:dCu}{γ:Value×World}{l:Array Bool}{w:World}{i:Nat}(h:C.gg γ l w)(h1:i≠15)(h2:i≠16)(h3:i≠19):C.gg γ (l.setIfInBounds i true) w:=by
 unfold dCu.gg;rw[dCr h1,dCr h2,dCr h3];exact h
theorem dCu.low{C:dCu}{γ:Value×World}{l:Array Bool}{w:World}(h:C.gg γ l w)(h2:bit l 16=false):Below C.W0.heap.size C.W0 w:=by
 cases h1:bit l 15 with
 |false=>rw[h.1 h1];exact Br _ _
 |true=>rw[h.2.1 h1 h2];exact aB _ _
theorem dCu.box{C:dCu}{t0:Array Value}(M:dJb C t0){γ:Value×World}(ap:γ.2.ownsRow C.B0 45 6 γ.1 (C.steps.length+1) (dAf bZ9.cs C.steps++C.st.cs.toList)/\(C.W0.alloc (.cells C.st.cs 45)).grownBy γ.2 C.tv.ownBlock):aP γ.2 C.sb #[C.lv,C.gv,C.tv,C.sv] 80:=by
 have h1:=M.kb.below (aB C.W0 (.cells C.st.cs 45));refine⟨Nat.lt_of_lt_of_le h1.1 ap.2.size,(ap.2.block C.sb h1.1 fun e=>?_).trans h1.2⟩;obtain⟨_,⟨h,_⟩|⟨g,cap,cur,h,_,h3,_⟩⟩:=M.ow
 ·rw[h] at e;cases e
 ·rw[h] at e;injection e with e
  have e:C.sb=g:=e;have h2:=M.kb.2;rw[e,h3] at h2;injection h2 with h2
  injection h2 with _ h2
  exact absurd h2 (by decide)
theorem dCu.bs{C:dCu}{γ:Value×World}{l:Array Bool}{a:Act}{w:World}{t0:Array Value}(H:uL dFi Region.Mode.any dGc C.val C.gg t0 [] γ l a w)(h:bit l 15=false):bit l 16=false:=H.off 15 16 h
section
variable {C:dCu}{t0:Array Value}{Q:Exit->Act->World->Prop}
theorem dHc(M:dJb C t0){a:Act}{w:World}(hdf:a.defers=[])(ht:a.tmps=t0)(hw:w.drewN 1=C.W0)
  (hQ:∀ γ:Value×World,(γ.2.ownsRow C.B0 45 6 γ.1 (C.steps.length+1) (dAf bZ9.cs C.steps++C.st.cs.toList)/\(C.W0.alloc (.cells C.st.cs 45)).grownBy γ.2 C.tv.ownBlock)->Q .normal { tmps:=iZ (C.val γ) dGc t0,defers:=[] } (γ.2.setCell ⟨C.sb,2,none⟩ γ.1)):(Code.region 16 dFi true).wp prog Q a w:=by
 have hsz:dFi.size=20:=by kernel_rfl
 obtain⟨i0,hi0,hz0,hz1,hz2⟩:=info_parts dHo;refine dCy (ds:=dGc) (val:=C.val) (G:=C.gg) (by kernel_rfl) (by kernel_rfl) (by decide) (fun p hp=>?_) (by kernel_rfl) ?_ (γ:=(.bool false,w)) hdf ht (by rw[hw];exact⟨fun _=>rfl,fun h=>(by rw[dC0] at h;cases h),fun h=>(by rw[dC0] at h;cases h)⟩) (fun γ l W hall hg=>by obtain⟨_,_,h3⟩:=hg;obtain⟨ap,_,hW⟩:=h3 (hall 16 (by rw[hsz];decide));rw[hW (hall 19 (by rw[hsz];decide))];exact hQ γ ap)
 ·rw[M.sz];have:∀p,p∈dGc->p.2<211:=by decide
  exact this p hp
 ·intro γ l a w i H hr;have hi:i<20:=by
   obtain⟨_,o,ho,_⟩:=mem_ready.1 hr;have:=(Ai.1 ho).1;rw[hsz] at this;exact this
  have lo0:=H.low (s:=0) (by decide) M.lo0;have lo3:=H.low (s:=3) (by decide) M.lo3;have lo10:=H.low (s:=10) (by decide) M.lo10;have lo11:=H.low (s:=11) (by decide) M.lo11;have lo16:=H.low (s:=16) (by decide) M.lo16;have hb:=H.g
  match i,hi,hr with
  |0,_,hr =>
   exact aWj (.move (.tmp 0)) (.pointer (some ⟨C.sb,0,none⟩)) (fun o h=>by simp[execOp,h,lo0,go_sem]) (dCu.keep H.g (by decide) (by decide) (by decide))
  |1,_,hr =>
   exact aWj (.move (.tmp 0)) (.pointer (some ⟨C.sb,0,none⟩)) (fun o h=>by simp[execOp,h,lo0,go_sem]) (dCu.keep H.g (by decide) (by decide) (by decide))
  |2,_,hr =>
   have v1:a.tmps[113]?=some (.pointer (some ⟨C.sb,0,none⟩)):=H.dep hr 1 113;exact aWj (.nilCheck (.tmp 113)) (.pointer (some ⟨C.sb,0,none⟩)) (fun o h=>by simp[execOp,h,v1,go_sem]) (dCu.keep H.g (by decide) (by decide) (by decide))
  |3,_,hr =>
   have v2:a.tmps[114]?=some (.pointer (some ⟨C.sb,0,none⟩)):=H.dep hr 2 114;exact aWj (.fieldAddr 80 (.tmp 114) 2) (.pointer (some ⟨C.sb,2,none⟩)) (fun o h=>by simp[execOp,h,v2,go_sem]) (dCu.keep H.g (by decide) (by decide) (by decide))
  |4,_,hr =>
   have v3:a.tmps[115]?=some (.pointer (some ⟨C.sb,2,none⟩)):=H.dep hr 3 115;have f4:=dCq hr;have f16:=H.off 4 16 f4;have hc:w.cell? ⟨C.sb,2,none⟩=some (C.tv):=((M.kb.overW (dCu.low hb f16) M.kb.1).cell 2).trans rfl;exact aWj (.load 27 (.tmp 115)) (C.tv) (fun o h=>by simp[execOp,h,v3,hc,go_sem]) (dCu.keep H.g (by decide) (by decide) (by decide))
  |5,_,hr =>
   exact aWj (.move (.tmp 3)) (.string ⟨C.cause.toArray⟩) (fun o h=>by simp[execOp,h,lo3,go_sem]) (dCu.keep H.g (by decide) (by decide) (by decide))
  |6,_,hr =>
   exact aWj (.fieldAddr 49 (.tmp 10) 0) (.pointer (some ⟨C.b,0,none⟩)) (fun o h=>by simp[execOp,h,lo10,go_sem]) (dCu.keep H.g (by decide) (by decide) (by decide))
  |7,_,hr =>
   have v6:a.tmps[118]?=some (.pointer (some ⟨C.b,0,none⟩)):=H.dep hr 6 118;have f7:=dCq hr;have f14:=H.off 7 14 f7;have f15:=H.off 14 15 f14;have f16:=H.off 15 16 f15;have hc:w.cell? ⟨C.b,0,none⟩=some (.string ⟨C.z.id.toArray⟩):=((M.kz.overW (dCu.low hb f16) M.kz.1).cell 0).trans rfl;exact aWj (.load 9 (.tmp 118)) (.string ⟨C.z.id.toArray⟩) (fun o h=>by simp[execOp,h,v6,hc,go_sem]) (dCu.keep H.g (by decide) (by decide) (by decide))
  |8,_,hr =>
   exact aWj (.fieldAddr 49 (.tmp 16) 0) (.pointer (some ⟨C.b16,0,none⟩)) (fun o h=>by simp[execOp,h,lo16,go_sem]) (dCu.keep H.g (by decide) (by decide) (by decide))
  |9,_,hr =>
   have v8:a.tmps[120]?=some (.pointer (some ⟨C.b16,0,none⟩)):=H.dep hr 8 120;have f9:=dCq hr;have f14:=H.off 9 14 f9;have f15:=H.off 14 15 f14;have f16:=H.off 15 16 f15;have hc:w.cell? ⟨C.b16,0,none⟩=some (.string ⟨C.pz.id.toArray⟩):=((M.kp.overW (dCu.low hb f16) M.kp.1).cell 0).trans rfl;exact aWj (.load 9 (.tmp 120)) (.string ⟨C.pz.id.toArray⟩) (fun o h=>by simp[execOp,h,v8,hc,go_sem]) (dCu.keep H.g (by decide) (by decide) (by decide))
  |10,_,hr =>
   exact aWj (.move (.tmp 11)) (.string ⟨C.q.toArray⟩) (fun o h=>by simp[execOp,h,lo11,go_sem]) (dCu.keep H.g (by decide) (by decide) (by decide))
  |11,_,hr =>
   exact aWj (.move (.tmp 11)) (.string ⟨C.q.toArray⟩) (fun o h=>by simp[execOp,h,lo11,go_sem]) (dCu.keep H.g (by decide) (by decide) (by decide))
  |12,_,hr =>
   exact aWj (.fieldAddr 49 (.tmp 16) 5) (.pointer (some ⟨C.b16,5,none⟩)) (fun o h=>by simp[execOp,h,lo16,go_sem]) (dCu.keep H.g (by decide) (by decide) (by decide))
  |13,_,hr =>
   have v12:a.tmps[124]?=some (.pointer (some ⟨C.b16,5,none⟩)):=H.dep hr 12 124;have f13:=dCq hr;have f14:=H.off 13 14 f13;have f15:=H.off 14 15 f14;have f16:=H.off 15 16 f15;have hc:w.cell? ⟨C.b16,5,none⟩=some (.string ⟨C.pz.c.toArray⟩):=((M.kp.overW (dCu.low hb f16) M.kp.1).cell 5).trans rfl;exact aWj (.load 36 (.tmp 124)) (.string ⟨C.pz.c.toArray⟩) (fun o h=>by simp[execOp,h,v12,hc,go_sem]) (dCu.keep H.g (by decide) (by decide) (by decide))
  |14,_,hr =>
   have v5:a.tmps[117]?=some (.string ⟨C.cause.toArray⟩):=H.dep hr 5 117;have v7:a.tmps[119]?=some (.string ⟨C.z.id.toArray⟩):=H.dep hr 7 119;have v9:a.tmps[121]?=some (.string ⟨C.pz.id.toArray⟩):=H.dep hr 9 121;have v10:a.tmps[122]?=some (.string ⟨C.q.toArray⟩):=H.dep hr 10 122;have v11:a.tmps[123]?=some (.string ⟨C.q.toArray⟩):=H.dep hr 11 123;have v13:a.tmps[125]?=some (.string ⟨C.pz.c.toArray⟩):=H.dep hr 13 125;exact aWj (.build 45 #[(0,(.tmp 117)),(1,(.tmp 119)),(2,(.tmp 121)),(3,(.tmp 122)),(4,(.tmp 123)),(5,(.tmp 125))]) (.agg C.st.cs) (fun o h=>by simp[execOp,h,v5,v7,v9,v10,v11,v13,M.hs,bZ9.cs,go_sem]) (dCu.keep H.g (by decide) (by decide) (by decide))
  |15,_,hr =>
   have v14:a.tmps[126]?=some (.agg C.st.cs):=H.dep hr 14 126;have f15:=dCq hr;have f16:=H.off 15 16 f15;have f19:=H.off 16 19 f16;have hw:=hb.1 f15;refine aLg (X:=.buildSlice 27 1 #[(0,.tmp 126)]) (v:=.slice (some ⟨C.W0.heap.size,0,none⟩) 1 1) (w':=(C.W0.alloc (.cells C.st.cs 45))) γ (fun _ _=>rfl) (by kernel_rfl) (fun o h=>?_) rfl ?_
   ·rw[hw];rw[show C.st.cs=#[.string ⟨C.st.cause.toArray⟩,.string ⟨C.st.src.toArray⟩,.string ⟨C.st.dst.toArray⟩,.string ⟨C.st.q.toArray⟩,.string ⟨C.st.made.toArray⟩,.string ⟨C.st.c.toArray⟩] from rfl] at v14 ⊢;simp[execOp,h,v14,go_sem]
   ·unfold dCu.gg;rw[dCv (by rw[H.sz,hsz];decide),dCr (show (15:Nat)≠16 by decide),dCr (show (15:Nat)≠19 by decide)];exact⟨fun h=>(by cases h),fun _ _=>rfl,fun h=>(by rw[f16] at h;cases h)⟩
  |16,_,hr =>
   have v4:a.tmps[116]?=some (C.tv):=H.dep hr 4 116;have v15:a.tmps[127]?=some (.slice (some ⟨C.W0.heap.size,0,none⟩) 1 1):=H.dep hr 15 127;have f16:=dCq hr;have f19:=H.off 16 19 f16;have o15:bit l 15=true:=aG hr (by kernel_rfl);have hw:=hb.2.1 o15 f16;have hown:World.ownsRow (C.W0.alloc (.cells C.st.cs 45)) C.B0 45 6 C.tv C.steps.length (dAf bZ9.cs C.steps):=M.ow.alloc _;have hX:(dFi[16]?).map (fun o=>(o.op,o.guard))=some (.call { callee:=.builtin .append,args:=#[.tmp 116,.tmp 127],argTypes:=#[27,27] },none):=by kernel_rfl
   cases ho:dFi[16]? with
   |none=>rw[ho] at hX;cases hX
   |some o =>
    rw[ho] at hX;simp only[Option.map_some,Option.some.injEq,Prod.mk.injEq] at hX;have hn1:=M.hn;have hB1:=M.hB;obtain⟨v',w',hrun,h2,h3,_,_⟩:=run_append_own_at (P:=prog) (C.W0.alloc (.cells C.st.cs 45)) C.B0 27 o.type 45 i0 dIp 6 96 underlying27 hi0 hz0 hz1 hz2 rfl (by decide) C.tv C.steps.length (dAf bZ9.cs C.steps) hown ⟨C.W0.heap.size,0,none⟩ 1 1 C.st.cs.toList rfl (fun j u hj=>by
     have k:=aP.new0 C.W0 C.st.cs 45;rw[Addr.add_lit,Nat.zero_add,k.cell j,<-hj,Array.getElem?_toList]) (fun u hu=>dGq hu) (by unfold maxLen;omega) (by omega) (by rw[World.size_alloc];omega)
    refine bU ho hX.2 ?_;have e1:(execOp a.eval o).run prog w=.ok (.value v') w':=by
     rw[hw];simp[execOp,hX.1,resolve,invoke,builtin,Act.eval,v4,v15,hrun,Result.andThen]
    unfold Oper.wp;rw[e1];refine⟨o,v',(v',w'),ho,rfl,rfl,fun j hj=>?_,?_⟩
    ·match j,hj with
     |16,hj=>exact absurd hj (by rw[show lP l 16=(bit l 16=true) from rfl,f16];decide)
     |0,_|1,_|2,_|3,_|4,_|5,_|6,_|7,_|8,_|9,_|10,_|11,_|12,_|13,_|14,_|15,_|17,_|18,_|19,_=>rfl
     |_+20,_=>rfl
    ·unfold dCu.gg;rw[dCv (by rw[H.sz,hsz];decide),dCr (show (16:Nat)≠15 by decide),dCr (show (16:Nat)≠19 by decide)];exact⟨fun h=>(by rw[o15] at h;cases h),fun _ h=>(by cases h),fun _=>⟨⟨h2,h3⟩,fun _=>rfl,fun h=>(by rw[f19] at h;cases h)⟩⟩
  |17,_,hr =>
   have v0:a.tmps[112]?=some (.pointer (some ⟨C.sb,0,none⟩)):=H.dep hr 0 112;exact aWj (.nilCheck (.tmp 112)) (.pointer (some ⟨C.sb,0,none⟩)) (fun o h=>by simp[execOp,h,v0,go_sem]) (dCu.keep H.g (by decide) (by decide) (by decide))
  |18,_,hr =>
   have v17:a.tmps[129]?=some (.pointer (some ⟨C.sb,0,none⟩)):=H.dep hr 17 129;exact aWj (.fieldAddr 80 (.tmp 129) 2) (.pointer (some ⟨C.sb,2,none⟩)) (fun o h=>by simp[execOp,h,v17,go_sem]) (dCu.keep H.g (by decide) (by decide) (by decide))
  |19,_,hr =>
   have v16:a.tmps[128]?=some (γ.1):=H.dep hr 16 128;have v18:a.tmps[130]?=some (.pointer (some ⟨C.sb,2,none⟩)):=H.dep hr 18 130;have f19:=dCq hr;have o16:bit l 16=true:=aG hr (by kernel_rfl);obtain⟨ap,hW,_⟩:=hb.2.2 o16;have hW:=hW f19;have hbx:=dCu.box M ap;have hcell:=(hbx.cell 2).trans (show _=some C.tv from rfl);have hfz:=aR hbx.2 2;refine aH0 (X:=.store 27 (.tmp 130) (.tmp 128)) (w':=γ.2.setCell ⟨C.sb,2,none⟩ γ.1) (by kernel_rfl) (fun o h=>?_) ?_
   ·rw[hW];exact dEq h v18 v16 ap.1 hcell hfz
   ·unfold dCu.gg;rw[dCv (by rw[H.sz,hsz];decide),dCr (show (19:Nat)≠15 by decide),dCr (show (19:Nat)≠16 by decide)];exact⟨fun h=>absurd (hb.1 h) (fun e=>by have:=dCu.bs H h;rw[this] at o16;cases o16),fun _ h=>(by rw[h] at o16;cases o16),fun _=>⟨ap,fun h=>(by cases h),fun _=>rfl⟩⟩
  |n+20,h,_=>exact absurd h (by omega)
end
noncomputable def dFh:Array Oper:=(f44.body.bind (dDa 21)).getD #[]
def dGb:List (Nat×Nat):=[(0,163),(1,164),(2,165),(3,166),(4,167),(5,168),(6,169),(7,170),(8,171),(9,172),(10,173),(11,174),(12,175),(13,176)]
structure dCz where
 W0:World
 B0:Nat
 sb:Nat
 lv:Value
 gv:Value
 tv:Value
 sv:Value
 steps:List bZ9
 st:bZ9
 b:Nat
 z:Bd
 cause:List UInt8
 a:List UInt8
def dCz.val(C:dCz)(γ:Value×World):Nat->Value
 |0=>.pointer (some ⟨C.sb,0,none⟩)
 |1=>.pointer (some ⟨C.sb,0,none⟩)
 |2=>.pointer (some ⟨C.sb,0,none⟩)
 |3=>.pointer (some ⟨C.sb,2,none⟩)
 |4=>C.tv
 |5=>.string ⟨C.cause.toArray⟩
 |6=>.pointer (some ⟨C.b,0,none⟩)
 |7=>.string ⟨C.z.id.toArray⟩
 |8=>.string ⟨C.a.toArray⟩
 |9=>.agg C.st.cs
 |10=>.slice (some ⟨C.W0.heap.size,0,none⟩) 1 1
 |11=>γ.1
 |12=>.pointer (some ⟨C.sb,0,none⟩)
 |13=>.pointer (some ⟨C.sb,2,none⟩)
 |14=>undef
 |_=>undef
def dCz.gg(C:dCz)(γ:Value×World)(l:Array Bool)(W:World):Prop:=(bit l 10=false->W=C.W0)/\(bit l 10=true->bit l 11=false->W=(C.W0.alloc (.cells C.st.cs 45)))/\(bit l 11=true->(γ.2.ownsRow C.B0 45 6 γ.1 (C.steps.length+1) (dAf bZ9.cs C.steps++C.st.cs.toList)/\(C.W0.alloc (.cells C.st.cs 45)).grownBy γ.2 C.tv.ownBlock)/\(bit l 14=false->W = γ.2)/\(bit l 14=true->W = γ.2.setCell ⟨C.sb,2,none⟩ γ.1))
structure dJa(C:dCz)(t0:Array Value):Prop where
 sz:t0.size=211
 lo0:t0[0]?=some (.pointer (some ⟨C.sb,0,none⟩))
 lo3:t0[3]?=some (.string ⟨C.cause.toArray⟩)
 lo10:t0[10]?=some (.pointer (some ⟨C.b,0,none⟩))
 lo12:t0[12]?=some (.string ⟨C.a.toArray⟩)
 kb:aP C.W0 C.sb #[C.lv,C.gv,C.tv,C.sv] 80
 kz:aP C.W0 C.b C.z.cs 49
 ow:C.W0.ownsRow C.B0 45 6 C.tv C.steps.length (dAf bZ9.cs C.steps)
 hB:C.B0<=C.W0.heap.size
 hn:C.steps.length<=1000000
 hs:C.st=⟨C.cause,[],C.z.id,[],[],C.a⟩
theorem dCz.keep{C:dCz}{γ:Value×World}{l:Array Bool}{w:World}{i:Nat}(h:C.gg γ l w)(h1:i≠10)(h2:i≠11)(h3:i≠14):C.gg γ (l.setIfInBounds i true) w:=by
 unfold dCz.gg;rw[dCr h1,dCr h2,dCr h3];exact h
theorem dCz.low{C:dCz}{γ:Value×World}{l:Array Bool}{w:World}(h:C.gg γ l w)(h2:bit l 11=false):Below C.W0.heap.size C.W0 w:=by
 cases h1:bit l 10 with
 |false=>rw[h.1 h1];exact Br _ _
 |true=>rw[h.2.1 h1 h2];exact aB _ _
theorem dCz.box{C:dCz}{t0:Array Value}(M:dJa C t0){γ:Value×World}(ap:γ.2.ownsRow C.B0 45 6 γ.1 (C.steps.length+1) (dAf bZ9.cs C.steps++C.st.cs.toList)/\(C.W0.alloc (.cells C.st.cs 45)).grownBy γ.2 C.tv.ownBlock):aP γ.2 C.sb #[C.lv,C.gv,C.tv,C.sv] 80:=by
 have h1:=M.kb.below (aB C.W0 (.cells C.st.cs 45));refine⟨Nat.lt_of_lt_of_le h1.1 ap.2.size,(ap.2.block C.sb h1.1 fun e=>?_).trans h1.2⟩;obtain⟨_,⟨h,_⟩|⟨g,cap,cur,h,_,h3,_⟩⟩:=M.ow
 ·rw[h] at e;cases e
 ·rw[h] at e;injection e with e
  have e:C.sb=g:=e;have h2:=M.kb.2;rw[e,h3] at h2;injection h2 with h2
  injection h2 with _ h2
  exact absurd h2 (by decide)
theorem dCz.bs{C:dCz}{γ:Value×World}{l:Array Bool}{a:Act}{w:World}{t0:Array Value}(H:uL dFh Region.Mode.any dGb C.val C.gg t0 [] γ l a w)(h:bit l 10=false):bit l 11=false:=H.off 10 11 h
section
variable {C:dCz}{t0:Array Value}{Q:Exit->Act->World->Prop}
theorem dHa(M:dJa C t0){a:Act}{w:World}(hdf:a.defers=[])(ht:a.tmps=t0)(hw:w.drewN 1=C.W0)
  (hQ:∀ γ:Value×World,(γ.2.ownsRow C.B0 45 6 γ.1 (C.steps.length+1) (dAf bZ9.cs C.steps++C.st.cs.toList)/\(C.W0.alloc (.cells C.st.cs 45)).grownBy γ.2 C.tv.ownBlock)->Q .normal { tmps:=iZ (C.val γ) dGb t0,defers:=[] } (γ.2.setCell ⟨C.sb,2,none⟩ γ.1)):(Code.region 21 dFh true).wp prog Q a w:=by
 have hsz:dFh.size=15:=by kernel_rfl
 obtain⟨i0,hi0,hz0,hz1,hz2⟩:=info_parts dHo;refine dCy (ds:=dGb) (val:=C.val) (G:=C.gg) (by kernel_rfl) (by kernel_rfl) (by decide) (fun p hp=>?_) (by kernel_rfl) ?_ (γ:=(.bool false,w)) hdf ht (by rw[hw];exact⟨fun _=>rfl,fun h=>(by rw[dC0] at h;cases h),fun h=>(by rw[dC0] at h;cases h)⟩) (fun γ l W hall hg=>by obtain⟨_,_,h3⟩:=hg;obtain⟨ap,_,hW⟩:=h3 (hall 11 (by rw[hsz];decide));rw[hW (hall 14 (by rw[hsz];decide))];exact hQ γ ap)
 ·rw[M.sz];have:∀p,p∈dGb->p.2<211:=by decide
  exact this p hp
 ·intro γ l a w i H hr;have hi:i<15:=by
   obtain⟨_,o,ho,_⟩:=mem_ready.1 hr;have:=(Ai.1 ho).1;rw[hsz] at this;exact this
  have lo0:=H.low (s:=0) (by decide) M.lo0;have lo3:=H.low (s:=3) (by decide) M.lo3;have lo10:=H.low (s:=10) (by decide) M.lo10;have lo12:=H.low (s:=12) (by decide) M.lo12;have hb:=H.g
  match i,hi,hr with
  |0,_,hr =>
   exact aWj (.move (.tmp 0)) (.pointer (some ⟨C.sb,0,none⟩)) (fun o h=>by simp[execOp,h,lo0,go_sem]) (dCz.keep H.g (by decide) (by decide) (by decide))
  |1,_,hr =>
   exact aWj (.move (.tmp 0)) (.pointer (some ⟨C.sb,0,none⟩)) (fun o h=>by simp[execOp,h,lo0,go_sem]) (dCz.keep H.g (by decide) (by decide) (by decide))
  |2,_,hr =>
   have v1:a.tmps[164]?=some (.pointer (some ⟨C.sb,0,none⟩)):=H.dep hr 1 164;exact aWj (.nilCheck (.tmp 164)) (.pointer (some ⟨C.sb,0,none⟩)) (fun o h=>by simp[execOp,h,v1,go_sem]) (dCz.keep H.g (by decide) (by decide) (by decide))
  |3,_,hr =>
   have v2:a.tmps[165]?=some (.pointer (some ⟨C.sb,0,none⟩)):=H.dep hr 2 165;exact aWj (.fieldAddr 80 (.tmp 165) 2) (.pointer (some ⟨C.sb,2,none⟩)) (fun o h=>by simp[execOp,h,v2,go_sem]) (dCz.keep H.g (by decide) (by decide) (by decide))
  |4,_,hr =>
   have v3:a.tmps[166]?=some (.pointer (some ⟨C.sb,2,none⟩)):=H.dep hr 3 166;have f4:=dCq hr;have f11:=H.off 4 11 f4;have hc:w.cell? ⟨C.sb,2,none⟩=some (C.tv):=((M.kb.overW (dCz.low hb f11) M.kb.1).cell 2).trans rfl;exact aWj (.load 27 (.tmp 166)) (C.tv) (fun o h=>by simp[execOp,h,v3,hc,go_sem]) (dCz.keep H.g (by decide) (by decide) (by decide))
  |5,_,hr =>
   exact aWj (.move (.tmp 3)) (.string ⟨C.cause.toArray⟩) (fun o h=>by simp[execOp,h,lo3,go_sem]) (dCz.keep H.g (by decide) (by decide) (by decide))
  |6,_,hr =>
   exact aWj (.fieldAddr 49 (.tmp 10) 0) (.pointer (some ⟨C.b,0,none⟩)) (fun o h=>by simp[execOp,h,lo10,go_sem]) (dCz.keep H.g (by decide) (by decide) (by decide))
  |7,_,hr =>
   have v6:a.tmps[169]?=some (.pointer (some ⟨C.b,0,none⟩)):=H.dep hr 6 169;have f7:=dCq hr;have f9:=H.off 7 9 f7;have f10:=H.off 9 10 f9;have f11:=H.off 10 11 f10;have hc:w.cell? ⟨C.b,0,none⟩=some (.string ⟨C.z.id.toArray⟩):=((M.kz.overW (dCz.low hb f11) M.kz.1).cell 0).trans rfl;exact aWj (.load 9 (.tmp 169)) (.string ⟨C.z.id.toArray⟩) (fun o h=>by simp[execOp,h,v6,hc,go_sem]) (dCz.keep H.g (by decide) (by decide) (by decide))
  |8,_,hr =>
   exact aWj (.move (.tmp 12)) (.string ⟨C.a.toArray⟩) (fun o h=>by simp[execOp,h,lo12,go_sem]) (dCz.keep H.g (by decide) (by decide) (by decide))
  |9,_,hr =>
   have v5:a.tmps[168]?=some (.string ⟨C.cause.toArray⟩):=H.dep hr 5 168;have v7:a.tmps[170]?=some (.string ⟨C.z.id.toArray⟩):=H.dep hr 7 170;have v8:a.tmps[171]?=some (.string ⟨C.a.toArray⟩):=H.dep hr 8 171;exact aWj (.build 45 #[(0,(.tmp 168)),(2,(.tmp 170)),(5,(.tmp 171))]) (.agg C.st.cs) (fun o h=>by simp[execOp,h,v5,v7,v8,M.hs,bZ9.cs,go_sem]) (dCz.keep H.g (by decide) (by decide) (by decide))
  |10,_,hr =>
   have v9:a.tmps[172]?=some (.agg C.st.cs):=H.dep hr 9 172;have f10:=dCq hr;have f11:=H.off 10 11 f10;have f14:=H.off 11 14 f11;have hw:=hb.1 f10;refine aLg (X:=.buildSlice 27 1 #[(0,.tmp 172)]) (v:=.slice (some ⟨C.W0.heap.size,0,none⟩) 1 1) (w':=(C.W0.alloc (.cells C.st.cs 45))) γ (fun _ _=>rfl) (by kernel_rfl) (fun o h=>?_) rfl ?_
   ·rw[hw];rw[show C.st.cs=#[.string ⟨C.st.cause.toArray⟩,.string ⟨C.st.src.toArray⟩,.string ⟨C.st.dst.toArray⟩,.string ⟨C.st.q.toArray⟩,.string ⟨C.st.made.toArray⟩,.string ⟨C.st.c.toArray⟩] from rfl] at v9 ⊢;simp[execOp,h,v9,go_sem]
   ·unfold dCz.gg;rw[dCv (by rw[H.sz,hsz];decide),dCr (show (10:Nat)≠11 by decide),dCr (show (10:Nat)≠14 by decide)];exact⟨fun h=>(by cases h),fun _ _=>rfl,fun h=>(by rw[f11] at h;cases h)⟩
  |11,_,hr =>
   have v4:a.tmps[167]?=some (C.tv):=H.dep hr 4 167;have v10:a.tmps[173]?=some (.slice (some ⟨C.W0.heap.size,0,none⟩) 1 1):=H.dep hr 10 173;have f11:=dCq hr;have f14:=H.off 11 14 f11;have o10:bit l 10=true:=aG hr (by kernel_rfl);have hw:=hb.2.1 o10 f11;have hown:World.ownsRow (C.W0.alloc (.cells C.st.cs 45)) C.B0 45 6 C.tv C.steps.length (dAf bZ9.cs C.steps):=M.ow.alloc _;have hX:(dFh[11]?).map (fun o=>(o.op,o.guard))=some (.call { callee:=.builtin .append,args:=#[.tmp 167,.tmp 173],argTypes:=#[27,27] },none):=by kernel_rfl
   cases ho:dFh[11]? with
   |none=>rw[ho] at hX;cases hX
   |some o =>
    rw[ho] at hX;simp only[Option.map_some,Option.some.injEq,Prod.mk.injEq] at hX;have hn1:=M.hn;have hB1:=M.hB;obtain⟨v',w',hrun,h2,h3,_,_⟩:=run_append_own_at (P:=prog) (C.W0.alloc (.cells C.st.cs 45)) C.B0 27 o.type 45 i0 dIp 6 96 underlying27 hi0 hz0 hz1 hz2 rfl (by decide) C.tv C.steps.length (dAf bZ9.cs C.steps) hown ⟨C.W0.heap.size,0,none⟩ 1 1 C.st.cs.toList rfl (fun j u hj=>by
     have k:=aP.new0 C.W0 C.st.cs 45;rw[Addr.add_lit,Nat.zero_add,k.cell j,<-hj,Array.getElem?_toList]) (fun u hu=>dGq hu) (by unfold maxLen;omega) (by omega) (by rw[World.size_alloc];omega)
    refine bU ho hX.2 ?_;have e1:(execOp a.eval o).run prog w=.ok (.value v') w':=by
     rw[hw];simp[execOp,hX.1,resolve,invoke,builtin,Act.eval,v4,v10,hrun,Result.andThen]
    unfold Oper.wp;rw[e1];refine⟨o,v',(v',w'),ho,rfl,rfl,fun j hj=>?_,?_⟩
    ·match j,hj with
     |11,hj=>exact absurd hj (by rw[show lP l 11=(bit l 11=true) from rfl,f11];decide)
     |0,_|1,_|2,_|3,_|4,_|5,_|6,_|7,_|8,_|9,_|10,_|12,_|13,_|14,_=>rfl
     |_+15,_=>rfl
    ·unfold dCz.gg;rw[dCv (by rw[H.sz,hsz];decide),dCr (show (11:Nat)≠10 by decide),dCr (show (11:Nat)≠14 by decide)];exact⟨fun h=>(by rw[o10] at h;cases h),fun _ h=>(by cases h),fun _=>⟨⟨h2,h3⟩,fun _=>rfl,fun h=>(by rw[f14] at h;cases h)⟩⟩
  |12,_,hr =>
   have v0:a.tmps[163]?=some (.pointer (some ⟨C.sb,0,none⟩)):=H.dep hr 0 163;exact aWj (.nilCheck (.tmp 163)) (.pointer (some ⟨C.sb,0,none⟩)) (fun o h=>by simp[execOp,h,v0,go_sem]) (dCz.keep H.g (by decide) (by decide) (by decide))
  |13,_,hr =>
   have v12:a.tmps[175]?=some (.pointer (some ⟨C.sb,0,none⟩)):=H.dep hr 12 175;exact aWj (.fieldAddr 80 (.tmp 175) 2) (.pointer (some ⟨C.sb,2,none⟩)) (fun o h=>by simp[execOp,h,v12,go_sem]) (dCz.keep H.g (by decide) (by decide) (by decide))
  |14,_,hr =>
   have v11:a.tmps[174]?=some (γ.1):=H.dep hr 11 174;have v13:a.tmps[176]?=some (.pointer (some ⟨C.sb,2,none⟩)):=H.dep hr 13 176;have f14:=dCq hr;have o11:bit l 11=true:=aG hr (by kernel_rfl);obtain⟨ap,hW,_⟩:=hb.2.2 o11;have hW:=hW f14;have hbx:=dCz.box M ap;have hcell:=(hbx.cell 2).trans (show _=some C.tv from rfl);have hfz:=aR hbx.2 2;refine aH0 (X:=.store 27 (.tmp 176) (.tmp 174)) (w':=γ.2.setCell ⟨C.sb,2,none⟩ γ.1) (by kernel_rfl) (fun o h=>?_) ?_
   ·rw[hW];exact dEq h v13 v11 ap.1 hcell hfz
   ·unfold dCz.gg;rw[dCv (by rw[H.sz,hsz];decide),dCr (show (14:Nat)≠10 by decide),dCr (show (14:Nat)≠11 by decide)];exact⟨fun h=>absurd (hb.1 h) (fun e=>by have:=dCz.bs H h;rw[this] at o11;cases o11),fun _ h=>(by rw[h] at o11;cases o11),fun _=>⟨ap,fun h=>(by cases h),fun _=>rfl⟩⟩
  |n+15,h,_=>exact absurd h (by omega)
end
end Go.Proofs.YtiloklnjjfaagaaGreatDoor
