/- WOnceR WashsaleOnceLaw -/
import Derived.Test.YtiloklnjjfaagaaGreatDoorWA
set_option maxHeartbeats 16000000
set_option maxRecDepth 100000
namespace Go.Proofs.YtiloklnjjfaagaaGreatDoor
open Go.Proofs.Tryz
section
open Go Go.RowKit Num
noncomputable def dKk:Array Oper:=(f4.body.bind (dDa 13)).getD #[]
def dKb:List (Nat×Nat):=[(0,82),(1,83),(2,84),(3,85),(4,86),(5,87),(6,88),(7,89),(8,90),(9,91),(10,92),(11,93),(12,94),(13,95),(14,96),(15,97),(16,98),(17,99),(18,100),(19,101),(20,102),(21,103),(22,104),(23,105),(24,106)]
structure dJ7 where
 W0:World
 bx:Nat
 x:aLe
 g:Nat
 o:Nat
 gn:Nat
 gc:Nat
 i:Nat
 y:aLe
 c1:Int
 c2:Int
def dJ7.val(C:dJ7)(_:Unit):Nat->Value
 |0=>.agg #[.string ⟨C.x.cause.toArray⟩,.string ⟨C.x.lot.toArray⟩,.string ⟨C.x.ins.toArray⟩,.int .i64 C.x.acq,.int .i64 C.x.cls,.string ⟨C.x.q.toArray⟩,.string ⟨C.x.p.toArray⟩,.string ⟨C.x.c.toArray⟩,.string ⟨C.x.df.toArray⟩,.string ⟨C.x.rp.toArray⟩]
 |1=>.int .i64 0
 |2=>.bool false
 |3=>.bool false
 |4=>.pointer (some ⟨C.bx,9,none⟩)
 |5=>.string ⟨C.x.rp.toArray⟩
 |6=>.slice (some ⟨C.g,C.o,none⟩) C.gn C.gc
 |7=>.int .i64 (C.i:Int)
 |8=>.pointer (some ⟨C.g,C.o+C.i*10,none⟩)
 |9=>.pointer (some ⟨C.g,C.o+C.i*10+9,none⟩)
 |10=>.string ⟨C.y.rp.toArray⟩
 |11=>.int .i64 C.c1
 |12=>.bool false
 |13=>.bool false
 |14=>.bool false
 |15=>.pointer (some ⟨C.bx,8,none⟩)
 |16=>.string ⟨C.x.df.toArray⟩
 |17=>.slice (some ⟨C.g,C.o,none⟩) C.gn C.gc
 |18=>.int .i64 (C.i:Int)
 |19=>.pointer (some ⟨C.g,C.o+C.i*10,none⟩)
 |20=>.pointer (some ⟨C.g,C.o+C.i*10+8,none⟩)
 |21=>.string ⟨C.y.df.toArray⟩
 |22=>.int .i64 C.c2
 |23=>.bool false
 |_=>.bool false
def dJ7.gg(C:dJ7)(_:Unit)(_:Array Bool)(W:World):Prop:=Below C.W0.heap.size C.W0 W
structure dKq(C:dJ7)(t0:Array Value):Prop where
 sz:t0.size=153
 lo1:t0[1]?=some (.slice (some ⟨C.g,C.o,none⟩) C.gn C.gc)
 lo19:t0[19]?=some (.int .i64 (C.i:Int))
 lo20:t0[20]?=some (.pointer (some ⟨C.bx,0,none⟩))
 kx:aP C.W0 C.bx #[.string ⟨C.x.cause.toArray⟩,.string ⟨C.x.lot.toArray⟩,.string ⟨C.x.ins.toArray⟩,.int .i64 C.x.acq,.int .i64 C.x.cls,.string ⟨C.x.q.toArray⟩,.string ⟨C.x.p.toArray⟩,.string ⟨C.x.c.toArray⟩,.string ⟨C.x.df.toArray⟩,.string ⟨C.x.rp.toArray⟩] 42
 kg:C.g<C.W0.heap.size
 g8:C.W0.cell? ⟨C.g,C.o+C.i*10+8,none⟩=some (.string ⟨C.y.df.toArray⟩)
 g9:C.W0.cell? ⟨C.g,C.o+C.i*10+9,none⟩=some (.string ⟨C.y.rp.toArray⟩)
 hi:C.i<C.gn
 hn:C.gn<=1000000
 hk:∀W,Below C.W0.heap.size C.W0 W->Calls prog 17 #[.agg #[.string ⟨C.x.cause.toArray⟩,.string ⟨C.x.lot.toArray⟩,.string ⟨C.x.ins.toArray⟩,.int .i64 C.x.acq,.int .i64 C.x.cls,.string ⟨C.x.q.toArray⟩,.string ⟨C.x.p.toArray⟩,.string ⟨C.x.c.toArray⟩,.string ⟨C.x.df.toArray⟩,.string ⟨C.x.rp.toArray⟩]] W fun e w'=>e=.returned (.int .i64 0)/\Below W.heap.size W w'
 h1:∀W,Calls prog 16 #[.string ⟨C.x.rp.toArray⟩,.string ⟨C.y.rp.toArray⟩] W fun e w'=>e=.returned (.int .i64 C.c1)/\Below W.heap.size W w'
 h2:∀W,Calls prog 16 #[.string ⟨C.x.df.toArray⟩,.string ⟨C.y.df.toArray⟩] W fun e w'=>e=.returned (.int .i64 C.c2)/\Below W.heap.size W w'
 n1:decide (C.c1<0)=false
 n2:decide (C.c2<0)=false
section
variable {C:dJ7}{t0:Array Value}{Q:Exit->Act->World->Prop}
theorem dJ3(M:dKq C t0){a:Act}{w:World}(hdf:a.defers=[])(ht:a.tmps=t0)(hw:w.drewN 1=C.W0)
  (hQ:∀W,Below C.W0.heap.size C.W0 W->Q .normal { tmps:=iZ (C.val ()) dKb t0,defers:=[] } W):(Code.region 13 dKk true).wp prog Q a w:=by
 have hsz:dKk.size=25:=by kernel_rfl
 refine dCy (ds:=dKb) (val:=C.val) (G:=C.gg) (by kernel_rfl) (by kernel_rfl) (by decide) (fun p hp=>?_) (by kernel_rfl) ?_ (γ:=()) hdf ht (by rw[hw];exact Br _ _) (fun _ _ W _ hg=>hQ W hg)
 ·rw[M.sz];have:∀p,p∈dKb->p.2<153:=by decide
  exact this p hp
 ·intro γ l a w i H hr;cases γ;have hi:i<25:=by
   obtain⟨_,o,ho,_⟩:=mem_ready.1 hr;have:=(Ai.1 ho).1;rw[hsz] at this;exact this
  have lo1:=H.low (s:=1) (by decide) M.lo1;have lo19:=H.low (s:=19) (by decide) M.lo19;have lo20:=H.low (s:=20) (by decide) M.lo20;have hb:=H.g
  match i,hi,hr with
  |0,_,hr =>
   have hk:=(M.kx.overW hb M.kx.1).at0;exact aWj (.load 42 (.tmp 20)) (.agg #[.string ⟨C.x.cause.toArray⟩,.string ⟨C.x.lot.toArray⟩,.string ⟨C.x.ins.toArray⟩,.int .i64 C.x.acq,.int .i64 C.x.cls,.string ⟨C.x.q.toArray⟩,.string ⟨C.x.p.toArray⟩,.string ⟨C.x.c.toArray⟩,.string ⟨C.x.df.toArray⟩,.string ⟨C.x.rp.toArray⟩]) (fun o h=>by exact dC4 h (by simp[Act.eval,lo20]) hk underlying42 rfl (dEz C.x)) hb
  |1,_,hr =>
   have v0:a.tmps[82]?=some (.agg #[.string ⟨C.x.cause.toArray⟩,.string ⟨C.x.lot.toArray⟩,.string ⟨C.x.ins.toArray⟩,.int .i64 C.x.acq,.int .i64 C.x.cls,.string ⟨C.x.q.toArray⟩,.string ⟨C.x.p.toArray⟩,.string ⟨C.x.c.toArray⟩,.string ⟨C.x.df.toArray⟩,.string ⟨C.x.rp.toArray⟩]):=H.dep hr 0 82;refine gA (f:=17) (lb:=#[]) (c:=.func 17) (args:=#[(.tmp 82)]) (ts:=#[42]) (vs:=#[.agg #[.string ⟨C.x.cause.toArray⟩,.string ⟨C.x.lot.toArray⟩,.string ⟨C.x.ins.toArray⟩,.int .i64 C.x.acq,.int .i64 C.x.cls,.string ⟨C.x.q.toArray⟩,.string ⟨C.x.p.toArray⟩,.string ⟨C.x.c.toArray⟩,.string ⟨C.x.df.toArray⟩,.string ⟨C.x.rp.toArray⟩]]) (by kernel_rfl) rfl (aXb func17) (by simp[Act.eval,v0]) ((M.hk _ hb).mono ?_);rintro e w' ⟨rfl,hb'⟩;exact⟨_,(),rfl,rfl,fun _ _=>rfl,aA hb hb'⟩
  |2,_,hr =>
   have v1:a.tmps[83]?=some (.int .i64 0):=H.dep hr 1 83;exact aWj (.binOp .neq 31 (.tmp 83) (.const (.int .i64 0)) 31) (.bool false) (fun o h=>by simp[execOp,h,v1,go_sem]) hb
  |3,_,hr =>
   have v2:a.tmps[84]?=some (.bool false):=H.dep hr 2 84;exact aWj (.move (.tmp 84)) (.bool false) (fun o h=>by simp[execOp,h,v2,go_sem]) hb
  |4,_,hr =>
   have hv:a.tmps[85]?=some (.bool false):=H.dep hr 3 85;exact bMv (X:=.fieldAddr 42 (.tmp 20) 9) (v:=.pointer (some ⟨C.bx,9,none⟩)) (by kernel_rfl) (nL (b:=false) (gb:=false) (by kernel_rfl) rfl (j:=3) (s:=85) (by kernel_rfl) hv) (fun o h=>by simp[execOp,h,lo20,go_sem]) rfl hb
  |5,_,hr =>
   have hv:a.tmps[85]?=some (.bool false):=H.dep hr 3 85;have v4:a.tmps[86]?=some (.pointer (some ⟨C.bx,9,none⟩)):=H.dep hr 4 86;have c9:w.cell? ⟨C.bx,9,none⟩=some (.string ⟨C.x.rp.toArray⟩):=(hb.cell (p:=⟨C.bx,9,none⟩) M.kx.1).trans ((M.kx.cell 9).trans rfl);exact bMv (X:=.load 36 (.tmp 86)) (v:=.string ⟨C.x.rp.toArray⟩) (by kernel_rfl) (nL (b:=false) (gb:=false) (by kernel_rfl) rfl (j:=3) (s:=85) (by kernel_rfl) hv) (fun o h=>by simp[execOp,h,v4,c9,go_sem]) rfl hb
  |6,_,hr =>
   have hv:a.tmps[85]?=some (.bool false):=H.dep hr 3 85;exact bMv (X:=.move (.tmp 1)) (v:=.slice (some ⟨C.g,C.o,none⟩) C.gn C.gc) (by kernel_rfl) (nL (b:=false) (gb:=false) (by kernel_rfl) rfl (j:=3) (s:=85) (by kernel_rfl) hv) (fun o h=>by simp[execOp,h,lo1,go_sem]) rfl hb
  |7,_,hr =>
   have hv:a.tmps[85]?=some (.bool false):=H.dep hr 3 85;exact bMv (X:=.move (.tmp 19)) (v:=.int .i64 (C.i:Int)) (by kernel_rfl) (nL (b:=false) (gb:=false) (by kernel_rfl) rfl (j:=3) (s:=85) (by kernel_rfl) hv) (fun o h=>by simp[execOp,h,lo19,go_sem]) rfl hb
  |8,_,hr =>
   have hv:a.tmps[85]?=some (.bool false):=H.dep hr 3 85;have v6:a.tmps[88]?=some (.slice (some ⟨C.g,C.o,none⟩) C.gn C.gc):=H.dep hr 6 88;have v7:a.tmps[89]?=some (.int .i64 (C.i:Int)):=H.dep hr 7 89;have hi1:=M.hi;have hn1:=M.hn;have hi2:(C.i:Int)<C.gn:=by omega
   exact bMv (X:=.indexAddr 23 (.tmp 88) (.tmp 89)) (v:=.pointer (some ⟨C.g,C.o+C.i*10,none⟩)) (by kernel_rfl) (nL (b:=false) (gb:=false) (by kernel_rfl) rfl (j:=3) (s:=85) (by kernel_rfl) hv) (fun o h=>by simp[execOp,h,v6,v7,hi2,go_sem]) rfl hb
  |9,_,hr =>
   have hv:a.tmps[85]?=some (.bool false):=H.dep hr 3 85;have v8:a.tmps[90]?=some (.pointer (some ⟨C.g,C.o+C.i*10,none⟩)):=H.dep hr 8 90;exact bMv (X:=.fieldAddr 42 (.tmp 90) 9) (v:=.pointer (some ⟨C.g,C.o+C.i*10+9,none⟩)) (by kernel_rfl) (nL (b:=false) (gb:=false) (by kernel_rfl) rfl (j:=3) (s:=85) (by kernel_rfl) hv) (fun o h=>by simp[execOp,h,v8,go_sem]) rfl hb
  |10,_,hr =>
   have hv:a.tmps[85]?=some (.bool false):=H.dep hr 3 85;have v9:a.tmps[91]?=some (.pointer (some ⟨C.g,C.o+C.i*10+9,none⟩)):=H.dep hr 9 91;have d9:w.cell? ⟨C.g,C.o+C.i*10+9,none⟩=some (.string ⟨C.y.rp.toArray⟩):=(hb.cell (p:=⟨C.g,C.o+C.i*10+9,none⟩) M.kg).trans M.g9;exact bMv (X:=.load 36 (.tmp 91)) (v:=.string ⟨C.y.rp.toArray⟩) (by kernel_rfl) (nL (b:=false) (gb:=false) (by kernel_rfl) rfl (j:=3) (s:=85) (by kernel_rfl) hv) (fun o h=>by simp[execOp,h,v9,d9,go_sem]) rfl hb
  |11,_,hr =>
   have hv:a.tmps[85]?=some (.bool false):=H.dep hr 3 85;have v5:a.tmps[87]?=some (.string ⟨C.x.rp.toArray⟩):=H.dep hr 5 87;have v10:a.tmps[92]?=some (.string ⟨C.y.rp.toArray⟩):=H.dep hr 10 92;refine mX (f:=16) (lb:=#[]) (c:=.func 16) (args:=#[(.tmp 87),(.tmp 92)]) (ts:=#[36,36]) (vs:=#[.string ⟨C.x.rp.toArray⟩,.string ⟨C.y.rp.toArray⟩]) (by kernel_rfl) (nL (b:=false) (gb:=false) (by kernel_rfl) rfl (j:=3) (s:=85) (by kernel_rfl) hv) rfl (aXb func16) (by simp[Act.eval,v5,v10]) ((M.h1 _).mono ?_);rintro e w' ⟨rfl,hb'⟩;exact⟨_,(),rfl,rfl,fun _ _=>rfl,aA hb hb'⟩
  |12,_,hr =>
   have hv:a.tmps[85]?=some (.bool false):=H.dep hr 3 85;have v11:a.tmps[93]?=some (.int .i64 C.c1):=H.dep hr 11 93;exact bMv (X:=.binOp .lss 3 (.tmp 93) (.const (.int .i64 0)) 3) (v:=.bool false) (by kernel_rfl) (nL (b:=false) (gb:=false) (by kernel_rfl) rfl (j:=3) (s:=85) (by kernel_rfl) hv) (fun o h=>by simp[execOp,h,v11,M.n1,go_sem]) rfl hb
  |13,_,hr =>
   have v3:a.tmps[85]?=some (.bool false):=H.dep hr 3 85;have v12:a.tmps[94]?=some (.bool false):=H.dep hr 12 94;exact aWj (.pick (.tmp 85) (.const (.bool true)) (.tmp 94)) (.bool false) (fun o h=>by simp[execOp,h,v3,v12,go_sem]) hb
  |14,_,hr =>
   have v13:a.tmps[95]?=some (.bool false):=H.dep hr 13 95;exact aWj (.move (.tmp 95)) (.bool false) (fun o h=>by simp[execOp,h,v13,go_sem]) hb
  |15,_,hr =>
   have hv:a.tmps[96]?=some (.bool false):=H.dep hr 14 96;exact bMv (X:=.fieldAddr 42 (.tmp 20) 8) (v:=.pointer (some ⟨C.bx,8,none⟩)) (by kernel_rfl) (nL (b:=false) (gb:=false) (by kernel_rfl) rfl (j:=14) (s:=96) (by kernel_rfl) hv) (fun o h=>by simp[execOp,h,lo20,go_sem]) rfl hb
  |16,_,hr =>
   have hv:a.tmps[96]?=some (.bool false):=H.dep hr 14 96;have v15:a.tmps[97]?=some (.pointer (some ⟨C.bx,8,none⟩)):=H.dep hr 15 97;have c8:w.cell? ⟨C.bx,8,none⟩=some (.string ⟨C.x.df.toArray⟩):=(hb.cell (p:=⟨C.bx,8,none⟩) M.kx.1).trans ((M.kx.cell 8).trans rfl);exact bMv (X:=.load 36 (.tmp 97)) (v:=.string ⟨C.x.df.toArray⟩) (by kernel_rfl) (nL (b:=false) (gb:=false) (by kernel_rfl) rfl (j:=14) (s:=96) (by kernel_rfl) hv) (fun o h=>by simp[execOp,h,v15,c8,go_sem]) rfl hb
  |17,_,hr =>
   have hv:a.tmps[96]?=some (.bool false):=H.dep hr 14 96;exact bMv (X:=.move (.tmp 1)) (v:=.slice (some ⟨C.g,C.o,none⟩) C.gn C.gc) (by kernel_rfl) (nL (b:=false) (gb:=false) (by kernel_rfl) rfl (j:=14) (s:=96) (by kernel_rfl) hv) (fun o h=>by simp[execOp,h,lo1,go_sem]) rfl hb
  |18,_,hr =>
   have hv:a.tmps[96]?=some (.bool false):=H.dep hr 14 96;exact bMv (X:=.move (.tmp 19)) (v:=.int .i64 (C.i:Int)) (by kernel_rfl) (nL (b:=false) (gb:=false) (by kernel_rfl) rfl (j:=14) (s:=96) (by kernel_rfl) hv) (fun o h=>by simp[execOp,h,lo19,go_sem]) rfl hb
  |19,_,hr =>
   have hv:a.tmps[96]?=some (.bool false):=H.dep hr 14 96;have v17:a.tmps[99]?=some (.slice (some ⟨C.g,C.o,none⟩) C.gn C.gc):=H.dep hr 17 99;have v18:a.tmps[100]?=some (.int .i64 (C.i:Int)):=H.dep hr 18 100;have hi1:=M.hi;have hn1:=M.hn;have hi2:(C.i:Int)<C.gn:=by omega
   exact bMv (X:=.indexAddr 23 (.tmp 99) (.tmp 100)) (v:=.pointer (some ⟨C.g,C.o+C.i*10,none⟩)) (by kernel_rfl) (nL (b:=false) (gb:=false) (by kernel_rfl) rfl (j:=14) (s:=96) (by kernel_rfl) hv) (fun o h=>by simp[execOp,h,v17,v18,hi2,go_sem]) rfl hb
  |20,_,hr =>
   have hv:a.tmps[96]?=some (.bool false):=H.dep hr 14 96;have v19:a.tmps[101]?=some (.pointer (some ⟨C.g,C.o+C.i*10,none⟩)):=H.dep hr 19 101;exact bMv (X:=.fieldAddr 42 (.tmp 101) 8) (v:=.pointer (some ⟨C.g,C.o+C.i*10+8,none⟩)) (by kernel_rfl) (nL (b:=false) (gb:=false) (by kernel_rfl) rfl (j:=14) (s:=96) (by kernel_rfl) hv) (fun o h=>by simp[execOp,h,v19,go_sem]) rfl hb
  |21,_,hr =>
   have hv:a.tmps[96]?=some (.bool false):=H.dep hr 14 96;have v20:a.tmps[102]?=some (.pointer (some ⟨C.g,C.o+C.i*10+8,none⟩)):=H.dep hr 20 102;have d8:w.cell? ⟨C.g,C.o+C.i*10+8,none⟩=some (.string ⟨C.y.df.toArray⟩):=(hb.cell (p:=⟨C.g,C.o+C.i*10+8,none⟩) M.kg).trans M.g8;exact bMv (X:=.load 36 (.tmp 102)) (v:=.string ⟨C.y.df.toArray⟩) (by kernel_rfl) (nL (b:=false) (gb:=false) (by kernel_rfl) rfl (j:=14) (s:=96) (by kernel_rfl) hv) (fun o h=>by simp[execOp,h,v20,d8,go_sem]) rfl hb
  |22,_,hr =>
   have hv:a.tmps[96]?=some (.bool false):=H.dep hr 14 96;have v16:a.tmps[98]?=some (.string ⟨C.x.df.toArray⟩):=H.dep hr 16 98;have v21:a.tmps[103]?=some (.string ⟨C.y.df.toArray⟩):=H.dep hr 21 103;refine mX (f:=16) (lb:=#[]) (c:=.func 16) (args:=#[(.tmp 98),(.tmp 103)]) (ts:=#[36,36]) (vs:=#[.string ⟨C.x.df.toArray⟩,.string ⟨C.y.df.toArray⟩]) (by kernel_rfl) (nL (b:=false) (gb:=false) (by kernel_rfl) rfl (j:=14) (s:=96) (by kernel_rfl) hv) rfl (aXb func16) (by simp[Act.eval,v16,v21]) ((M.h2 _).mono ?_);rintro e w' ⟨rfl,hb'⟩;exact⟨_,(),rfl,rfl,fun _ _=>rfl,aA hb hb'⟩
  |23,_,hr =>
   have hv:a.tmps[96]?=some (.bool false):=H.dep hr 14 96;have v22:a.tmps[104]?=some (.int .i64 C.c2):=H.dep hr 22 104;exact bMv (X:=.binOp .lss 3 (.tmp 104) (.const (.int .i64 0)) 3) (v:=.bool false) (by kernel_rfl) (nL (b:=false) (gb:=false) (by kernel_rfl) rfl (j:=14) (s:=96) (by kernel_rfl) hv) (fun o h=>by simp[execOp,h,v22,M.n2,go_sem]) rfl hb
  |24,_,hr =>
   have v14:a.tmps[96]?=some (.bool false):=H.dep hr 14 96;have v23:a.tmps[105]?=some (.bool false):=H.dep hr 23 105;exact aWj (.pick (.tmp 96) (.const (.bool true)) (.tmp 105)) (.bool false) (fun o h=>by simp[execOp,h,v14,v23,go_sem]) hb
  |n+25,h,_=>exact absurd h (by omega)
end
noncomputable def dKj:Array Oper:=(f4.body.bind (dDa 16)).getD #[]
def dKa:List (Nat×Nat):=[(0,108),(1,109),(2,110),(3,111),(4,112),(5,113),(6,114),(7,115),(8,116),(9,117),(10,118),(12,119)]
structure dC2 where
 W0:World
 B:Nat
 bz:Nat
 x:aLe
 g:Nat
 o:Nat
 gn:Nat
 gc:Nat
 i:Nat
 y:aLe
def dC2.val(C:dC2)(_:Unit):Nat->Value
 |0=>.slice (some ⟨C.g,C.o,none⟩) C.gn C.gc
 |1=>.int .i64 (C.i:Int)
 |2=>.pointer (some ⟨C.g,C.o+C.i*10,none⟩)
 |3=>.pointer (some ⟨C.g,C.o+C.i*10+9,none⟩)
 |4=>.string ⟨C.y.rp.toArray⟩
 |5=>.slice (some ⟨C.g,C.o,none⟩) C.gn C.gc
 |6=>.int .i64 (C.i:Int)
 |7=>.pointer (some ⟨C.g,C.o+C.i*10,none⟩)
 |8=>.pointer (some ⟨C.g,C.o+C.i*10+8,none⟩)
 |9=>.string ⟨C.y.df.toArray⟩
 |10=>.pointer (some ⟨C.bz,9,none⟩)
 |11=>undef
 |12=>.pointer (some ⟨C.bz,8,none⟩)
 |_=>undef
def dC2.gg(C:dC2)(_:Unit)(l:Array Bool)(W:World):Prop:=Below C.B C.W0 W/\aP W C.bz #[.string ⟨C.x.cause.toArray⟩,.string ⟨C.x.lot.toArray⟩,.string ⟨C.x.ins.toArray⟩,.int .i64 C.x.acq,.int .i64 C.x.cls,.string ⟨C.x.q.toArray⟩,.string ⟨C.x.p.toArray⟩,.string ⟨C.x.c.toArray⟩,(if bit l 13=true then .string ⟨C.y.df.toArray⟩ else .string ⟨C.x.df.toArray⟩),(if bit l 11=true then .string ⟨C.y.rp.toArray⟩ else .string ⟨C.x.rp.toArray⟩)] 42
structure dKp(C:dC2)(t0:Array Value):Prop where
 sz:t0.size=153
 lo1:t0[1]?=some (.slice (some ⟨C.g,C.o,none⟩) C.gn C.gc)
 lo19:t0[19]?=some (.int .i64 (C.i:Int))
 lo21:t0[21]?=some (.pointer (some ⟨C.bz,0,none⟩))
 kz:C.B<=C.bz
 kb:aP C.W0 C.bz #[.string ⟨C.x.cause.toArray⟩,.string ⟨C.x.lot.toArray⟩,.string ⟨C.x.ins.toArray⟩,.int .i64 C.x.acq,.int .i64 C.x.cls,.string ⟨C.x.q.toArray⟩,.string ⟨C.x.p.toArray⟩,.string ⟨C.x.c.toArray⟩,.string ⟨C.x.df.toArray⟩,.string ⟨C.x.rp.toArray⟩] 42
 kg:C.g<C.B
 g8:C.W0.cell? ⟨C.g,C.o+C.i*10+8,none⟩=some (.string ⟨C.y.df.toArray⟩)
 g9:C.W0.cell? ⟨C.g,C.o+C.i*10+9,none⟩=some (.string ⟨C.y.rp.toArray⟩)
 hi:C.i<C.gn
 hn:C.gn<=1000000
theorem dC2.keep{C:dC2}{l:Array Bool}{w:World}{i:Nat}(h:C.gg () l w)(h1:i≠11)(h2:i≠13):C.gg () (l.setIfInBounds i true) w:=by
 unfold dC2.gg;rw[dCr h1,dCr h2];exact h
section
variable {C:dC2}{t0:Array Value}{Q:Exit->Act->World->Prop}
theorem dJ2(M:dKp C t0){a:Act}{w:World}(hdf:a.defers=[])(ht:a.tmps=t0)(hw:w.drewN 1=C.W0)
  (hQ:∀W,Below C.B C.W0 W->aP W C.bz #[.string ⟨C.x.cause.toArray⟩,.string ⟨C.x.lot.toArray⟩,.string ⟨C.x.ins.toArray⟩,.int .i64 C.x.acq,.int .i64 C.x.cls,.string ⟨C.x.q.toArray⟩,.string ⟨C.x.p.toArray⟩,.string ⟨C.x.c.toArray⟩,.string ⟨C.y.df.toArray⟩,.string ⟨C.y.rp.toArray⟩] 42->Q .normal { tmps:=iZ (C.val ()) dKa t0,defers:=[] } W):(Code.region 16 dKj true).wp prog Q a w:=by
 have hsz:dKj.size=14:=by kernel_rfl
 refine dCy (ds:=dKa) (val:=C.val) (G:=C.gg) (by kernel_rfl) (by kernel_rfl) (by decide) (fun p hp=>?_) (by kernel_rfl) ?_ (γ:=()) hdf ht (by rw[hw];exact⟨Br _ _,by rw[dC0,dC0];exact M.kb⟩) (fun γ l W hall hg=>hQ W hg.1 (by have h:=hg.2;rw[show bit l 11=true from hall 11 (by rw[hsz];decide),show bit l 13=true from hall 13 (by rw[hsz];decide),if_pos rfl,if_pos rfl] at h;exact h))
 ·rw[M.sz];have:∀p,p∈dKa->p.2<153:=by decide
  exact this p hp
 ·intro γ l a w i H hr;cases γ;have hi:i<14:=by
   obtain⟨_,o,ho,_⟩:=mem_ready.1 hr;have:=(Ai.1 ho).1;rw[hsz] at this;exact this
  have lo1:=H.low (s:=1) (by decide) M.lo1;have lo19:=H.low (s:=19) (by decide) M.lo19;have lo21:=H.low (s:=21) (by decide) M.lo21;have hb:=H.g
  match i,hi,hr with
  |0,_,hr =>
   exact aWj (.move (.tmp 1)) (.slice (some ⟨C.g,C.o,none⟩) C.gn C.gc) (fun o h=>by simp[execOp,h,lo1,go_sem]) (dC2.keep H.g (by decide) (by decide))
  |1,_,hr =>
   exact aWj (.move (.tmp 19)) (.int .i64 (C.i:Int)) (fun o h=>by simp[execOp,h,lo19,go_sem]) (dC2.keep H.g (by decide) (by decide))
  |2,_,hr =>
   have v0:a.tmps[108]?=some (.slice (some ⟨C.g,C.o,none⟩) C.gn C.gc):=H.dep hr 0 108;have v1:a.tmps[109]?=some (.int .i64 (C.i:Int)):=H.dep hr 1 109;have hi1:=M.hi;have hn1:=M.hn;have hi2:(C.i:Int)<C.gn:=by omega
   exact aWj (.indexAddr 23 (.tmp 108) (.tmp 109)) (.pointer (some ⟨C.g,C.o+C.i*10,none⟩)) (fun o h=>by simp[execOp,h,v0,v1,hi2,go_sem]) (dC2.keep H.g (by decide) (by decide))
  |3,_,hr =>
   have v2:a.tmps[110]?=some (.pointer (some ⟨C.g,C.o+C.i*10,none⟩)):=H.dep hr 2 110;exact aWj (.fieldAddr 42 (.tmp 110) 9) (.pointer (some ⟨C.g,C.o+C.i*10+9,none⟩)) (fun o h=>by simp[execOp,h,v2,go_sem]) (dC2.keep H.g (by decide) (by decide))
  |4,_,hr =>
   have v3:a.tmps[111]?=some (.pointer (some ⟨C.g,C.o+C.i*10+9,none⟩)):=H.dep hr 3 111;have d9:w.cell? ⟨C.g,C.o+C.i*10+9,none⟩=some (.string ⟨C.y.rp.toArray⟩):=(hb.1.cell (p:=⟨C.g,C.o+C.i*10+9,none⟩) M.kg).trans M.g9;exact aWj (.load 36 (.tmp 111)) (.string ⟨C.y.rp.toArray⟩) (fun o h=>by simp[execOp,h,v3,d9,go_sem]) (dC2.keep H.g (by decide) (by decide))
  |5,_,hr =>
   exact aWj (.move (.tmp 1)) (.slice (some ⟨C.g,C.o,none⟩) C.gn C.gc) (fun o h=>by simp[execOp,h,lo1,go_sem]) (dC2.keep H.g (by decide) (by decide))
  |6,_,hr =>
   exact aWj (.move (.tmp 19)) (.int .i64 (C.i:Int)) (fun o h=>by simp[execOp,h,lo19,go_sem]) (dC2.keep H.g (by decide) (by decide))
  |7,_,hr =>
   have v5:a.tmps[113]?=some (.slice (some ⟨C.g,C.o,none⟩) C.gn C.gc):=H.dep hr 5 113;have v6:a.tmps[114]?=some (.int .i64 (C.i:Int)):=H.dep hr 6 114;have hi1:=M.hi;have hn1:=M.hn;have hi2:(C.i:Int)<C.gn:=by omega
   exact aWj (.indexAddr 23 (.tmp 113) (.tmp 114)) (.pointer (some ⟨C.g,C.o+C.i*10,none⟩)) (fun o h=>by simp[execOp,h,v5,v6,hi2,go_sem]) (dC2.keep H.g (by decide) (by decide))
  |8,_,hr =>
   have v7:a.tmps[115]?=some (.pointer (some ⟨C.g,C.o+C.i*10,none⟩)):=H.dep hr 7 115;exact aWj (.fieldAddr 42 (.tmp 115) 8) (.pointer (some ⟨C.g,C.o+C.i*10+8,none⟩)) (fun o h=>by simp[execOp,h,v7,go_sem]) (dC2.keep H.g (by decide) (by decide))
  |9,_,hr =>
   have v8:a.tmps[116]?=some (.pointer (some ⟨C.g,C.o+C.i*10+8,none⟩)):=H.dep hr 8 116;have d8:w.cell? ⟨C.g,C.o+C.i*10+8,none⟩=some (.string ⟨C.y.df.toArray⟩):=(hb.1.cell (p:=⟨C.g,C.o+C.i*10+8,none⟩) M.kg).trans M.g8;exact aWj (.load 36 (.tmp 116)) (.string ⟨C.y.df.toArray⟩) (fun o h=>by simp[execOp,h,v8,d8,go_sem]) (dC2.keep H.g (by decide) (by decide))
  |10,_,hr =>
   exact aWj (.fieldAddr 42 (.tmp 21) 9) (.pointer (some ⟨C.bz,9,none⟩)) (fun o h=>by simp[execOp,h,lo21,go_sem]) (dC2.keep H.g (by decide) (by decide))
  |11,_,hr =>
   have v4:a.tmps[112]?=some (.string ⟨C.y.rp.toArray⟩):=H.dep hr 4 112;have v10:a.tmps[118]?=some (.pointer (some ⟨C.bz,9,none⟩)):=H.dep hr 10 118;have fi:=dCq hr;have hz:=hb.2;have hc:∃u,w.cell? ⟨C.bz,9,none⟩=some u:=⟨_,(hz.cell 9).trans rfl⟩
   obtain⟨u,hc⟩:=hc;have hf:=aR hz.2 9;refine aH0 (X:=.store 36 (.tmp 118) (.tmp 112)) (w':=w.setCell ⟨C.bz,9,none⟩ (.string ⟨C.y.rp.toArray⟩)) (by kernel_rfl) (fun o h=>by simp[execOp,h,v10,v4,hc,hf,go_sem]) ?_;refine⟨hb.1.setCell (p:=⟨C.bz,9,none⟩) M.kz _,?_⟩;have hq:=hz.setC (i:=9) (v:=.string ⟨C.y.rp.toArray⟩);simp only[List.setIfInBounds_toArray,List.set_cons_zero,List.set_cons_succ] at hq;rw[dCv (by rw[H.sz,hsz];decide),dCr (show (11:Nat)≠13 by decide),if_pos rfl];exact hq
  |12,_,hr =>
   exact aWj (.fieldAddr 42 (.tmp 21) 8) (.pointer (some ⟨C.bz,8,none⟩)) (fun o h=>by simp[execOp,h,lo21,go_sem]) (dC2.keep H.g (by decide) (by decide))
  |13,_,hr =>
   have v9:a.tmps[117]?=some (.string ⟨C.y.df.toArray⟩):=H.dep hr 9 117;have v12:a.tmps[119]?=some (.pointer (some ⟨C.bz,8,none⟩)):=H.dep hr 12 119;have fi:=dCq hr;have hz:=hb.2;have hc:∃u,w.cell? ⟨C.bz,8,none⟩=some u:=⟨_,(hz.cell 8).trans rfl⟩
   obtain⟨u,hc⟩:=hc;have hf:=aR hz.2 8;refine aH0 (X:=.store 36 (.tmp 119) (.tmp 117)) (w':=w.setCell ⟨C.bz,8,none⟩ (.string ⟨C.y.df.toArray⟩)) (by kernel_rfl) (fun o h=>by simp[execOp,h,v12,v9,hc,hf,go_sem]) ?_;refine⟨hb.1.setCell (p:=⟨C.bz,8,none⟩) M.kz _,?_⟩;have hq:=hz.setC (i:=8) (v:=.string ⟨C.y.df.toArray⟩);simp only[List.setIfInBounds_toArray,List.set_cons_zero,List.set_cons_succ] at hq;rw[dCv (by rw[H.sz,hsz];decide),dCr (show (13:Nat)≠11 by decide),if_pos rfl];exact hq
  |n+14,h,_=>exact absurd h (by omega)
end
noncomputable def dKi:Array Oper:=(f4.body.bind (dDa 19)).getD #[]
def dJ9:List (Nat×Nat):=[(0,126),(1,127),(2,128),(3,129),(4,130),(5,131),(6,132),(7,133),(8,134),(9,135),(10,136),(11,137),(12,138),(13,139),(14,140),(15,141),(16,142),(17,143),(18,144),(19,145),(20,146),(21,147),(22,148),(23,149),(24,150)]
structure dJk where
 W0:World
 bx:Nat
 x:aLe
 g:Nat
 o:Nat
 gn:Nat
 gc:Nat
 i:Nat
 y:aLe
 s:List UInt8
 n1:Bool
 n2:Bool
 n3:Bool
def dJk.val(C:dJk)(_:Unit):Nat->Value
 |0=>.pointer (some ⟨C.bx,9,none⟩)
 |1=>.string ⟨C.x.rp.toArray⟩
 |2=>.slice (some ⟨C.g,C.o,none⟩) C.gn C.gc
 |3=>.int .i64 (C.i:Int)
 |4=>.pointer (some ⟨C.g,C.o+C.i*10,none⟩)
 |5=>.pointer (some ⟨C.g,C.o+C.i*10+9,none⟩)
 |6=>.string ⟨C.y.rp.toArray⟩
 |7=>.bool C.n1
 |8=>.bool C.n1
 |9=>gv C.n1 (.pointer (some ⟨C.bx,9,none⟩))
 |10=>gv C.n1 (.string ⟨C.x.rp.toArray⟩)
 |11=>gv C.n1 (.pointer (some ⟨C.bx,5,none⟩))
 |12=>gv C.n1 (.string ⟨C.x.q.toArray⟩)
 |13=>gv C.n1 (.bool C.n2)
 |14=>.bool (C.n1&&C.n2)
 |15=>.bool (C.n1&&C.n2)
 |16=>gv (C.n1&&C.n2) (.pointer (some ⟨C.bx,6,none⟩))
 |17=>gv (C.n1&&C.n2) (.string ⟨C.x.p.toArray⟩)
 |18=>gv (C.n1&&C.n2) (.pointer (some ⟨C.bx,8,none⟩))
 |19=>gv (C.n1&&C.n2) (.string ⟨C.x.df.toArray⟩)
 |20=>gv (C.n1&&C.n2) (.string ⟨C.s.toArray⟩)
 |21=>gv (C.n1&&C.n2) (.pointer (some ⟨C.bx,7,none⟩))
 |22=>gv (C.n1&&C.n2) (.string ⟨C.x.c.toArray⟩)
 |23=>gv (C.n1&&C.n2) (.bool C.n3)
 |_=>.bool ((C.n1&&C.n2)&&C.n3)
def dJk.gg(C:dJk)(_:Unit)(_:Array Bool)(W:World):Prop:=Below C.W0.heap.size C.W0 W
structure dKo(C:dJk)(t0:Array Value):Prop where
 sz:t0.size=153
 lo1:t0[1]?=some (.slice (some ⟨C.g,C.o,none⟩) C.gn C.gc)
 lo19:t0[19]?=some (.int .i64 (C.i:Int))
 lo20:t0[20]?=some (.pointer (some ⟨C.bx,0,none⟩))
 kx:aP C.W0 C.bx #[.string ⟨C.x.cause.toArray⟩,.string ⟨C.x.lot.toArray⟩,.string ⟨C.x.ins.toArray⟩,.int .i64 C.x.acq,.int .i64 C.x.cls,.string ⟨C.x.q.toArray⟩,.string ⟨C.x.p.toArray⟩,.string ⟨C.x.c.toArray⟩,.string ⟨C.x.df.toArray⟩,.string ⟨C.x.rp.toArray⟩] 42
 kg:C.g<C.W0.heap.size
 g8:C.W0.cell? ⟨C.g,C.o+C.i*10+8,none⟩=some (.string ⟨C.y.df.toArray⟩)
 g9:C.W0.cell? ⟨C.g,C.o+C.i*10+9,none⟩=some (.string ⟨C.y.rp.toArray⟩)
 hi:C.i<C.gn
 hn:C.gn<=1000000
 ha:∀W,Below C.W0.heap.size C.W0 W->Calls prog 18 #[.string ⟨C.x.p.toArray⟩,.string ⟨C.x.df.toArray⟩] W fun e w'=>e=.returned (.string ⟨C.s.toArray⟩)/\Below W.heap.size W w'
 n1:(C.x.rp==C.y.rp) = !C.n1
 n2:(C.x.rp==C.x.q)=C.n2
 n3:(C.s==C.x.c) = !C.n3
section
variable {C:dJk}{t0:Array Value}{Q:Exit->Act->World->Prop}
theorem dJ1(M:dKo C t0){a:Act}{w:World}(hdf:a.defers=[])(ht:a.tmps=t0)(hw:w.drewN 1=C.W0)
  (hQ:∀W,Below C.W0.heap.size C.W0 W->Q .normal { tmps:=iZ (C.val ()) dJ9 t0,defers:=[] } W):(Code.region 19 dKi true).wp prog Q a w:=by
 have hsz:dKi.size=25:=by kernel_rfl
 refine dCy (ds:=dJ9) (val:=C.val) (G:=C.gg) (by kernel_rfl) (by kernel_rfl) (by decide) (fun p hp=>?_) (by kernel_rfl) ?_ (γ:=()) hdf ht (by rw[hw];exact Br _ _) (fun _ _ W _ hg=>hQ W hg)
 ·rw[M.sz];have:∀p,p∈dJ9->p.2<153:=by decide
  exact this p hp
 ·intro γ l a w i H hr;cases γ;have hi:i<25:=by
   obtain⟨_,o,ho,_⟩:=mem_ready.1 hr;have:=(Ai.1 ho).1;rw[hsz] at this;exact this
  have lo1:=H.low (s:=1) (by decide) M.lo1;have lo19:=H.low (s:=19) (by decide) M.lo19;have lo20:=H.low (s:=20) (by decide) M.lo20;have hb:=H.g
  match i,hi,hr with
  |0,_,hr =>
   exact aWj (.fieldAddr 42 (.tmp 20) 9) (.pointer (some ⟨C.bx,9,none⟩)) (fun o h=>by simp[execOp,h,lo20,go_sem]) hb
  |1,_,hr =>
   have v0:a.tmps[126]?=some (.pointer (some ⟨C.bx,9,none⟩)):=H.dep hr 0 126;have c9:w.cell? ⟨C.bx,9,none⟩=some (.string ⟨C.x.rp.toArray⟩):=(hb.cell (p:=⟨C.bx,9,none⟩) M.kx.1).trans ((M.kx.cell 9).trans rfl);exact aWj (.load 36 (.tmp 126)) (.string ⟨C.x.rp.toArray⟩) (fun o h=>by simp[execOp,h,v0,c9,go_sem]) hb
  |2,_,hr =>
   exact aWj (.move (.tmp 1)) (.slice (some ⟨C.g,C.o,none⟩) C.gn C.gc) (fun o h=>by simp[execOp,h,lo1,go_sem]) hb
  |3,_,hr =>
   exact aWj (.move (.tmp 19)) (.int .i64 (C.i:Int)) (fun o h=>by simp[execOp,h,lo19,go_sem]) hb
  |4,_,hr =>
   have v2:a.tmps[128]?=some (.slice (some ⟨C.g,C.o,none⟩) C.gn C.gc):=H.dep hr 2 128;have v3:a.tmps[129]?=some (.int .i64 (C.i:Int)):=H.dep hr 3 129;have hi1:=M.hi;have hn1:=M.hn;have hi2:(C.i:Int)<C.gn:=by omega
   exact aWj (.indexAddr 23 (.tmp 128) (.tmp 129)) (.pointer (some ⟨C.g,C.o+C.i*10,none⟩)) (fun o h=>by simp[execOp,h,v2,v3,hi2,go_sem]) hb
  |5,_,hr =>
   have v4:a.tmps[130]?=some (.pointer (some ⟨C.g,C.o+C.i*10,none⟩)):=H.dep hr 4 130;exact aWj (.fieldAddr 42 (.tmp 130) 9) (.pointer (some ⟨C.g,C.o+C.i*10+9,none⟩)) (fun o h=>by simp[execOp,h,v4,go_sem]) hb
  |6,_,hr =>
   have v5:a.tmps[131]?=some (.pointer (some ⟨C.g,C.o+C.i*10+9,none⟩)):=H.dep hr 5 131;have d9:w.cell? ⟨C.g,C.o+C.i*10+9,none⟩=some (.string ⟨C.y.rp.toArray⟩):=(hb.cell (p:=⟨C.g,C.o+C.i*10+9,none⟩) M.kg).trans M.g9;exact aWj (.load 36 (.tmp 131)) (.string ⟨C.y.rp.toArray⟩) (fun o h=>by simp[execOp,h,v5,d9,go_sem]) hb
  |7,_,hr =>
   have v1:a.tmps[127]?=some (.string ⟨C.x.rp.toArray⟩):=H.dep hr 1 127;have v6:a.tmps[132]?=some (.string ⟨C.y.rp.toArray⟩):=H.dep hr 6 132;exact aWj (.binOp .neq 36 (.tmp 127) (.tmp 132) 36) (.bool C.n1) (fun o h=>by simp[execOp,h,v1,v6,M.n1,go_sem]) hb
  |8,_,hr =>
   have v7:a.tmps[133]?=some (.bool C.n1):=H.dep hr 7 133;exact aWj (.move (.tmp 133)) (.bool C.n1) (fun o h=>by simp[execOp,h,v7,go_sem]) hb
  |9,_,hr =>
   have hv:a.tmps[134]?=some (.bool C.n1):=H.dep hr 8 134;exact dH (X:=.fieldAddr 42 (.tmp 20) 9) (v:=.pointer (some ⟨C.bx,9,none⟩)) (gb:=C.n1) (by kernel_rfl) (by kernel_rfl) (j:=8) (s:=134) (by kernel_rfl) hv rfl (fun hgb o h=>by simp[execOp,h,lo20,go_sem]) hb
  |10,_,hr =>
   have hv:a.tmps[134]?=some (.bool C.n1):=H.dep hr 8 134;have v9:a.tmps[135]?=some (gv C.n1 (.pointer (some ⟨C.bx,9,none⟩))):=H.dep hr 9 135;have c9:w.cell? ⟨C.bx,9,none⟩=some (.string ⟨C.x.rp.toArray⟩):=(hb.cell (p:=⟨C.bx,9,none⟩) M.kx.1).trans ((M.kx.cell 9).trans rfl);exact dH (X:=.load 36 (.tmp 135)) (v:=.string ⟨C.x.rp.toArray⟩) (gb:=C.n1) (by kernel_rfl) (by kernel_rfl) (j:=8) (s:=134) (by kernel_rfl) hv rfl (fun hgb o h=>by unfold gv at v9;rw[hgb,if_pos rfl] at v9;simp[execOp,h,v9,c9,go_sem]) hb
  |11,_,hr =>
   have hv:a.tmps[134]?=some (.bool C.n1):=H.dep hr 8 134;exact dH (X:=.fieldAddr 42 (.tmp 20) 5) (v:=.pointer (some ⟨C.bx,5,none⟩)) (gb:=C.n1) (by kernel_rfl) (by kernel_rfl) (j:=8) (s:=134) (by kernel_rfl) hv rfl (fun hgb o h=>by simp[execOp,h,lo20,go_sem]) hb
  |12,_,hr =>
   have hv:a.tmps[134]?=some (.bool C.n1):=H.dep hr 8 134;have v11:a.tmps[137]?=some (gv C.n1 (.pointer (some ⟨C.bx,5,none⟩))):=H.dep hr 11 137;have c5:w.cell? ⟨C.bx,5,none⟩=some (.string ⟨C.x.q.toArray⟩):=(hb.cell (p:=⟨C.bx,5,none⟩) M.kx.1).trans ((M.kx.cell 5).trans rfl);exact dH (X:=.load 36 (.tmp 137)) (v:=.string ⟨C.x.q.toArray⟩) (gb:=C.n1) (by kernel_rfl) (by kernel_rfl) (j:=8) (s:=134) (by kernel_rfl) hv rfl (fun hgb o h=>by unfold gv at v11;rw[hgb,if_pos rfl] at v11;simp[execOp,h,v11,c5,go_sem]) hb
  |13,_,hr =>
   have hv:a.tmps[134]?=some (.bool C.n1):=H.dep hr 8 134;have v10:a.tmps[136]?=some (gv C.n1 (.string ⟨C.x.rp.toArray⟩)):=H.dep hr 10 136;have v12:a.tmps[138]?=some (gv C.n1 (.string ⟨C.x.q.toArray⟩)):=H.dep hr 12 138;exact dH (X:=.binOp .eql 36 (.tmp 136) (.tmp 138) 36) (v:=.bool C.n2) (gb:=C.n1) (by kernel_rfl) (by kernel_rfl) (j:=8) (s:=134) (by kernel_rfl) hv rfl (fun hgb o h=>by unfold gv at v10 v12;rw[hgb,if_pos rfl] at v10 v12;simp[execOp,h,v10,v12,M.n2,go_sem]) hb
  |14,_,hr =>
   have v8:a.tmps[134]?=some (.bool C.n1):=H.dep hr 8 134;have v13:a.tmps[139]?=some (gv C.n1 (.bool C.n2)):=H.dep hr 13 139;exact aWj (.pick (.tmp 134) (.tmp 139) (.const (.bool false))) (.bool (C.n1&&C.n2)) (fun o h=>by cases hX:C.n1 <;> rw[hX] at v8 v13 <;> simp[execOp,h,v8,v13,gv,go_sem]) hb
  |15,_,hr =>
   have v14:a.tmps[140]?=some (.bool (C.n1&&C.n2)):=H.dep hr 14 140;exact aWj (.move (.tmp 140)) (.bool (C.n1&&C.n2)) (fun o h=>by simp[execOp,h,v14,go_sem]) hb
  |16,_,hr =>
   have hv:a.tmps[141]?=some (.bool (C.n1&&C.n2)):=H.dep hr 15 141;exact dH (X:=.fieldAddr 42 (.tmp 20) 6) (v:=.pointer (some ⟨C.bx,6,none⟩)) (gb:=(C.n1&&C.n2)) (by kernel_rfl) (by kernel_rfl) (j:=15) (s:=141) (by kernel_rfl) hv rfl (fun hgb o h=>by simp[execOp,h,lo20,go_sem]) hb
  |17,_,hr =>
   have hv:a.tmps[141]?=some (.bool (C.n1&&C.n2)):=H.dep hr 15 141;have v16:a.tmps[142]?=some (gv (C.n1&&C.n2) (.pointer (some ⟨C.bx,6,none⟩))):=H.dep hr 16 142;have c6:w.cell? ⟨C.bx,6,none⟩=some (.string ⟨C.x.p.toArray⟩):=(hb.cell (p:=⟨C.bx,6,none⟩) M.kx.1).trans ((M.kx.cell 6).trans rfl);exact dH (X:=.load 36 (.tmp 142)) (v:=.string ⟨C.x.p.toArray⟩) (gb:=(C.n1&&C.n2)) (by kernel_rfl) (by kernel_rfl) (j:=15) (s:=141) (by kernel_rfl) hv rfl (fun hgb o h=>by unfold gv at v16;rw[hgb,if_pos rfl] at v16;simp[execOp,h,v16,c6,go_sem]) hb
  |18,_,hr =>
   have hv:a.tmps[141]?=some (.bool (C.n1&&C.n2)):=H.dep hr 15 141;exact dH (X:=.fieldAddr 42 (.tmp 20) 8) (v:=.pointer (some ⟨C.bx,8,none⟩)) (gb:=(C.n1&&C.n2)) (by kernel_rfl) (by kernel_rfl) (j:=15) (s:=141) (by kernel_rfl) hv rfl (fun hgb o h=>by simp[execOp,h,lo20,go_sem]) hb
  |19,_,hr =>
   have hv:a.tmps[141]?=some (.bool (C.n1&&C.n2)):=H.dep hr 15 141;have v18:a.tmps[144]?=some (gv (C.n1&&C.n2) (.pointer (some ⟨C.bx,8,none⟩))):=H.dep hr 18 144;have c8:w.cell? ⟨C.bx,8,none⟩=some (.string ⟨C.x.df.toArray⟩):=(hb.cell (p:=⟨C.bx,8,none⟩) M.kx.1).trans ((M.kx.cell 8).trans rfl);exact dH (X:=.load 36 (.tmp 144)) (v:=.string ⟨C.x.df.toArray⟩) (gb:=(C.n1&&C.n2)) (by kernel_rfl) (by kernel_rfl) (j:=15) (s:=141) (by kernel_rfl) hv rfl (fun hgb o h=>by unfold gv at v18;rw[hgb,if_pos rfl] at v18;simp[execOp,h,v18,c8,go_sem]) hb
  |20,_,hr =>
   have hv:a.tmps[141]?=some (.bool (C.n1&&C.n2)):=H.dep hr 15 141;have v17:a.tmps[143]?=some (gv (C.n1&&C.n2) (.string ⟨C.x.p.toArray⟩)):=H.dep hr 17 143;have v19:a.tmps[145]?=some (gv (C.n1&&C.n2) (.string ⟨C.x.df.toArray⟩)):=H.dep hr 19 145;refine qL (f:=18) (lb:=#[]) (c:=.func 18) (args:=#[(.tmp 143),(.tmp 145)]) (ts:=#[36,36]) (vs:=#[.string ⟨C.x.p.toArray⟩,.string ⟨C.x.df.toArray⟩]) (gb:=(C.n1&&C.n2)) (by kernel_rfl) (by kernel_rfl) (j:=15) (s:=141) (by kernel_rfl) hv rfl (aXb func18) (fun h=>by simp[dJk.val,gv,h]) (fun _=>hb) (fun hgb=>by unfold gv at v17 v19;rw[hgb,if_pos rfl] at v17 v19;simp[Act.eval,v17,v19]) (fun hgb=>(M.ha _ hb).mono ?_);rintro e w' ⟨rfl,hb'⟩;exact⟨_,(),rfl,by simp[dJk.val,gv,hgb],fun _ _=>rfl,aA hb hb'⟩
  |21,_,hr =>
   have hv:a.tmps[141]?=some (.bool (C.n1&&C.n2)):=H.dep hr 15 141;exact dH (X:=.fieldAddr 42 (.tmp 20) 7) (v:=.pointer (some ⟨C.bx,7,none⟩)) (gb:=(C.n1&&C.n2)) (by kernel_rfl) (by kernel_rfl) (j:=15) (s:=141) (by kernel_rfl) hv rfl (fun hgb o h=>by simp[execOp,h,lo20,go_sem]) hb
  |22,_,hr =>
   have hv:a.tmps[141]?=some (.bool (C.n1&&C.n2)):=H.dep hr 15 141;have v21:a.tmps[147]?=some (gv (C.n1&&C.n2) (.pointer (some ⟨C.bx,7,none⟩))):=H.dep hr 21 147;have c7:w.cell? ⟨C.bx,7,none⟩=some (.string ⟨C.x.c.toArray⟩):=(hb.cell (p:=⟨C.bx,7,none⟩) M.kx.1).trans ((M.kx.cell 7).trans rfl);exact dH (X:=.load 36 (.tmp 147)) (v:=.string ⟨C.x.c.toArray⟩) (gb:=(C.n1&&C.n2)) (by kernel_rfl) (by kernel_rfl) (j:=15) (s:=141) (by kernel_rfl) hv rfl (fun hgb o h=>by unfold gv at v21;rw[hgb,if_pos rfl] at v21;simp[execOp,h,v21,c7,go_sem]) hb
  |23,_,hr =>
   have hv:a.tmps[141]?=some (.bool (C.n1&&C.n2)):=H.dep hr 15 141;have v20:a.tmps[146]?=some (gv (C.n1&&C.n2) (.string ⟨C.s.toArray⟩)):=H.dep hr 20 146;have v22:a.tmps[148]?=some (gv (C.n1&&C.n2) (.string ⟨C.x.c.toArray⟩)):=H.dep hr 22 148;exact dH (X:=.binOp .neq 36 (.tmp 146) (.tmp 148) 36) (v:=.bool C.n3) (gb:=(C.n1&&C.n2)) (by kernel_rfl) (by kernel_rfl) (j:=15) (s:=141) (by kernel_rfl) hv rfl (fun hgb o h=>by unfold gv at v20 v22;rw[hgb,if_pos rfl] at v20 v22;simp[execOp,h,v20,v22,M.n3,go_sem]) hb
  |24,_,hr =>
   have v15:a.tmps[141]?=some (.bool (C.n1&&C.n2)):=H.dep hr 15 141;have v23:a.tmps[149]?=some (gv (C.n1&&C.n2) (.bool C.n3)):=H.dep hr 23 149;exact aWj (.pick (.tmp 141) (.tmp 149) (.const (.bool false))) (.bool ((C.n1&&C.n2)&&C.n3)) (fun o h=>by cases hX:(C.n1&&C.n2) <;> rw[hX] at v15 v23 <;> simp[execOp,h,v15,v23,gv,go_sem]) hb
  |n+25,h,_=>exact absurd h (by omega)
end
end
section
open Go Go.RowKit Num
attribute [local go_sem] eW eN aV
theorem dJ5{x y:aLe}(u:bZq y x)(gx:x.err=0):((!(x.rp==y.rp))&&(x.rp==x.q) && !(aJ (val x.p+val x.df)==x.c))=false:=by
 cases h1:(x.rp==y.rp)
 ·cases h2:(x.rp==x.q)
  ·rfl
  ·have h1:x.rp≠y.rp:=by simpa using h1
   have h2:x.rp=x.q:=by simpa using h2
   rw[dI1 u gx h1 h2];simp
 ·rfl
theorem dJi{a b:Int}(h:b<=a):decide (bG a b<0)=false:=by
 unfold bG;split
 ·omega
 ·split <;> decide
theorem dEs(ls:List Bd)(gs:List aLe)(cause:List UInt8)(d:Int)(ins:List UInt8)(wash:Int)(a a2:Option Addr)(c c2:Nat)(w:World)(hE:iE w)(hn:ls.length<=9223372036854775807)(_hc:ls.length<=c)(hw:Jj w a ls)(hs:∀x,x∈ls->x.fits)
  (hn2:gs.length<=9223372036854775807) (_hc2:gs.length<=c2) (hw2:aL3 w a2 gs) (hs2:∀x,x∈gs->x.fits) (hcause:cause.length<=9223372036854775807) (hins:ins.length<=9223372036854775807) :
  Calls prog 4 #[.slice a ls.length c,.slice a2 gs.length c2,.string ⟨cause.toArray⟩,.int .i64 d,.string ⟨ins.toArray⟩,.int .i64 wash] w fun e w'=>e=.returned (.bool true)/\Below w.heap.size w w':=by
 have HA:=Hd (fun W (hb:Below w.heap.size w W)=>dHq W (hE.below hb));have H1:=Hd (dHp ls gs a c a2 c2 w hn hw hs hn2 hw2 hs2);have HE:=Hd hE;have HW:=Hd (And.intro hw hw2);have HCI:=Hd (And.intro hcause hins);clear hE hw hs hw2 hs2 hcause hins hn hn2 _hc _hc2;go_enter func4,ntmps4;go_wp2_with fail;refine H1.out.mono ?_;rintro e w1 ⟨rfl,hb⟩;have HB:=Hd hb;clear hb H1;cases hg:dFm ls gs
 case true =>
  go_wp2_with fail;refine(HA.out _ HB.out).mono ?_;rintro e w2 ⟨rfl,hb⟩;go_wp2;go_ret;exact⟨rfl,aA HB.out hb⟩
 have S:=Hd (dI2 hg);clear hg;have HP:=Hd (dIq ls gs a c a2 c2 cause ins d wash w1 (HE.out.below HB.out) S.out (HW.out.1.below HB.out) (HW.out.2.below HB.out) HCI.out.1 HCI.out.2);go_wp2_with fail;refine HP.out.mono ?_;rintro e w2 ⟨hap,hb⟩;have HB2:=Hd (aA HB.out hb);clear hb HP HB;rcases hap with⟨z,hz,rfl⟩|⟨t,la,lc,ga,gc,sa,sc,ea,en,ec,hEw,_,_,rfl,hres⟩
 ·have hz':(z==0)=false:=by simpa using hz
  have HB3:=Hd (aA HB2.out (aB w2 (.cells #[.slice none 0 0,.slice none 0 0,.slice none 0 0,.slice none 0 0] 30)));go_wp2_with fail;generalize w2.alloc _=w3 at *;refine(HA.out _ HB3.out).mono ?_;rintro e w4 ⟨rfl,hb⟩;go_wp2;go_ret;exact⟨rfl,aA HB3.out hb⟩
 have E:=Hd hEw;have hlen:t.gains.length=gs.length:=hEw.keep.up.1;rw[hlen];have HLEN:=Hd hlen;have HS1:=Hd (fun W (hb:Below w.heap.size w W)=>dJg ls gs a c a2 c2 W (HE.out.below hb) (by have:=S.out.ll;omega) (HW.out.1.below hb) (fun y hy=>by have:=(S.out.lots y hy).2.2.2.2;omega) (by have:=S.out.gl;omega) (HW.out.2.below hb) (fun x hx=>by have:=(S.out.gains x hx).2.2.2.2.2.2.2;omega));have HS2:=Hd (fun W (hb:Below w.heap.size w W) (hl:Jj W la t.lots) (hg:aL3 W ga t.gains)=>dJg t.lots t.gains la lc ga gc W (HE.out.below hb) (by have:=hEw.stOk.ok.lots.len;omega) hl (fun y hy=>(hEw.smallL y hy).2.2.2.2) (by have:=hEw.stOk.gl;omega) hg (fun x hx=>(hEw.wideG x hx).2.2.2.2.2.2.2));have HGL:=Hd S.out.gl;rw[hlen] at HS2;have KR:=Hd (aP.new0 w2 #[.slice la t.lots.length lc,.slice ga gs.length gc,.slice sa t.steps.length sc,.slice ea en ec] 30);have HB3:=Hd (aA HB2.out (aB w2 (.cells #[.slice la t.lots.length lc,.slice ga gs.length gc,.slice sa t.steps.length sc,.slice ea en ec] 30)));have HLT:=Hd (hres.lots.below (aB w2 (.cells #[.slice la t.lots.length lc,.slice ga gs.length gc,.slice sa t.steps.length sc,.slice ea en ec] 30)));have HGT:=Hd (hres.gains.below (aB w2 (.cells #[.slice la t.lots.length lc,.slice ga gs.length gc,.slice sa t.steps.length sc,.slice ea en ec] 30)));clear hEw hres hlen HB2;go_wp2_with fail;generalize w2.alloc _=w3 at *;refine(HS1.out _ HB3.out).mono ?_;rintro e w4 ⟨⟨p1,q1,rfl,hp1,hq1,lp1,lq1⟩,hb⟩;have HV1:=Hd (And.intro hp1 hq1);have HB4:=Hd (aA HB3.out hb);have HLT:=Hd (HLT.out.below hb);have HGT:=Hd (HGT.out.below hb);have KR:=Hd (KR.out.below hb);have r0:=KR.out.cell 0;have r1:=KR.out.cell 1;clear hb HS1 HB3 hp1 hq1;go_wp2_with fail;refine(HS2.out _ HB4.out HLT.out HGT.out).mono ?_;rintro e w5 ⟨⟨p2,q2,rfl,hp2,hq2,lp2,lq2⟩,hb⟩;have HB5:=Hd (aA HB4.out hb);have HGT:=Hd (HGT.out.below hb);have KR:=Hd (KR.out.below hb);clear hb HS2 HB4 r0 r1 HLT;have hkp:=E.out.keep;have hu:=hkp.used;have hm:=hkp.more;have e1:val p1=bXk (fun y:Bd=>val y.u) ls:=by rw[HV1.out.1,bE]
 have e2:val q1=bXk (fun x:aLe=>val x.rp) gs:=by rw[HV1.out.2,bE]
 have e3:val p2=bXk (fun y:Bd=>val y.u) t.lots:=by rw[hp2,bE]
 have e4:val q2=bXk (fun x:aLe=>val x.rp) t.gains:=by rw[hq2,bE]
 have HA1:=Hd (fun W hW=>aAd p2 p1 W hW (by omega) (by omega));have HA2:=Hd (fun W hW=>aAd q2 q1 W hW (by omega) (by omega));have hsame:val q2-val q1=val p2-val p1:=by
  rw[e1,e2,e3,e4];exact hu.symm
 rw[hsame] at HA2;have HA3:=Hd (fun W=>nV p2 p1 W (by omega) (by omega));have hge:decide (bG (val p2) (val p1)<0)=false:=dJi (by
  have h1:bXk (fun y:Bd=>val y.u) t.lots-bXk (fun y:Bd=>val y.u) ls=bXk (fun x:aLe=>val x.rp) t.gains-bXk (fun x:aLe=>val x.rp) gs:=hu;have h2:bXk (fun x:aLe=>val x.rp) gs<=bXk (fun x:aLe=>val x.rp) t.gains:=hm;omega)
 have hge:¬ bG (val p2) (val p1)<0:=of_decide_eq_false hge;generalize aJ (val p2-val p1)=dd at *;generalize bG (val p2) (val p1)=cz at *;clear hkp hu hm e1 e2 e3 e4 hsame hp2 hq2 HV1 lp1 lq1 lp2 lq2;have r1:=KR.out.cell 1;go_wp2_with fail;refine(HA1.out _ (HE.out.below HB5.out)).mono ?_;rintro e w6 ⟨rfl,hb⟩;have HB6:=Hd (aA HB5.out hb);have HGT:=Hd (HGT.out.below hb);have KR:=Hd (KR.out.below hb);clear hb HA1 HB5 r1;have r1:=KR.out.cell 1;go_wp2_with fail;refine(HA2.out _ (HE.out.below HB6.out)).mono ?_;rintro e w7 ⟨rfl,hb⟩;have HB7:=Hd (aA HB6.out hb);have HGT:=Hd (HGT.out.below hb);have KR:=Hd (KR.out.below hb);clear hb HA2 HB6 r1;have r1:=KR.out.cell 1;go_wp2_with fail;refine(HA3.out _).mono ?_;rintro e w8 ⟨rfl,hb⟩;have HB8:=Hd (aA HB7.out hb);have HGT:=Hd (HGT.out.below hb);have KR:=Hd (KR.out.below hb);clear hb HA3 HB7 r1;have r1:=KR.out.cell 1;go_wp2_with fail;clear r1 KR;go_loopw [77] (fun i W=>Hid (Below w.heap.size w W)/\Hid (aL3 W ga t.gains)/\∃k:Nat,k<=gs.length/\i=.int .i64 (k:Int)) (fun i _=>gs.length-(intOf i).toNat)
 case atStart=>exact⟨HB8,HGT,0,Nat.zero_le _,rfl⟩
 case round =>
  clear HB8 HGT;obtain⟨hB,hGT,k,hk,rfl⟩:=hrel
  by_cases hlt:k<gs.length
  ·obtain⟨x,hx⟩:∃x,t.gains[k]?=some x:=⟨t.gains[k]'(by rw[HLEN.out];exact hlt),Lg _⟩
   obtain⟨y,hy⟩:∃y,gs[k]?=some y:=⟨gs[k],Lg hlt⟩
   have up:=E.out.keep.up.2 k y x hy hx;have gx:=E.out.keep.ok.gains x (List.mem_of_getElem? hx);have wx:=E.out.wideG x (List.mem_of_getElem? hx);have sy:=S.out.gains y (List.mem_of_getElem? hy);obtain⟨b1,o1,ha1,k0,k1,k2,k3,k4,k5,k6,k7,k8,k9⟩:=hGT.out.addr hx;obtain⟨b2,o2,ha2,j0,j1,j2,j3,j4,j5,j6,j7,j8,j9⟩:=(HW.out.2.below hB.out).addr hy;subst ha1 ha2;have HJ:=Hd (And.intro j0 (And.intro j1 (And.intro j2 (And.intro j3 (And.intro j4 (And.intro j5 (And.intro j6 (And.intro j7 (And.intro j8 j9)))))))));have HJL:Hid (b2<wr.heap.size):=dG6 j0;have HUP:=Hd up;have HF:=Hd (dJ5 up gx);have HN1:Hid (decide (bG (val x.rp) (val y.rp)<0)=false):=dJi up.rp;have HN2:Hid (decide (bG (val x.df) (val y.df)<0)=false):=dJi up.df;have HK:=Hd (fun W hW=>dD4 x W hW wx);rw[gx] at HK;have HC1:=Hd (fun W=>nV x.rp y.rp W (by have:=wx.2.2.2.2.2.2.2;omega) (by have:=sy.2.2.2.2.2.2.2;omega));have HC2:=Hd (fun W=>nV x.df y.df W (by have:=wx.2.2.2.2.2.2.1;omega) (by have:=sy.2.2.2.2.2.2.1;omega));have HAD:=Hd (fun W hW=>aAg x.p x.df W hW (by have:=wx.2.2.2.2.1;omega) (by have:=wx.2.2.2.2.2.2.1;omega));have HKB:Hid (k<gs.length/\gs.length<=1000000):=⟨hlt,by have:=HGL.out;omega⟩
   have KX:=Hd (aP.new0 wr #[.string ⟨x.cause.toArray⟩,.string ⟨x.lot.toArray⟩,.string ⟨x.ins.toArray⟩,.int .i64 x.acq,.int .i64 x.cls,.string ⟨x.q.toArray⟩,.string ⟨x.p.toArray⟩,.string ⟨x.c.toArray⟩,.string ⟨x.df.toArray⟩,.string ⟨x.rp.toArray⟩] 42);have HBX:Hid (Below wr.heap.size wr (wr.alloc (.cells #[.string ⟨x.cause.toArray⟩,.string ⟨x.lot.toArray⟩,.string ⟨x.ins.toArray⟩,.int .i64 x.acq,.int .i64 x.cls,.string ⟨x.q.toArray⟩,.string ⟨x.p.toArray⟩,.string ⟨x.c.toArray⟩,.string ⟨x.df.toArray⟩,.string ⟨x.rp.toArray⟩] 42))):=aB _ _;clear j0 j1 j2 j3 j4 j5 j6 j7 j8 j9 up gx wx sy hx hy;simp only[aLe.v,aLe.cs] at HK;go_upto_region 13 with fail
   generalize wr.alloc _=w0 at *;clear k0 k1 k2 k3 k4 k5 k6 k7 k8 k9;refine dJ3 (C:=⟨w0.drewN 1,wr.heap.size,x,b2,o2,gs.length,c2,k,y,bG (val x.rp) (val y.rp),bG (val x.df) (val y.df)⟩) ?M1 rfl rfl rfl ?_
   case M1 =>
    have hd:=aD (Br w0.heap.size w0) 1;have hj:=HBX.out.size;exact⟨rfl,rfl,rfl,rfl,KX.out.below hd,Nat.lt_of_lt_of_le HJL.out hj,(HBX.out.cell (p:=⟨b2,o2+k*10+8,none⟩) HJL.out).trans HJ.out.2.2.2.2.2.2.2.2.1,(HBX.out.cell (p:=⟨b2,o2+k*10+9,none⟩) HJL.out).trans HJ.out.2.2.2.2.2.2.2.2.2,HKB.out.1,HKB.out.2,
     fun W hW=>HK.out W (HE.out.below (aA hB.out (aA HBX.out (aA hd hW)))),fun W=>HC1.out W,fun W=>HC2.out W,HN1.out,HN2.out⟩
   intro V hV;have hV:=aA (aD (Br w0.heap.size w0) 1) hV;have HVW:=Hd (aA HBX.out hV);have KX:=Hd (KX.out.below hV);clear hV HC1 HC2 HN1 HN2 HK HBX;simp only[iZ,dKb,List.foldl,List.setIfInBounds_toArray,List.set_cons_zero,List.set_cons_succ,dJ7.val];have c0:=KX.out.cell 0;have c1:=KX.out.cell 1;have c2':=KX.out.cell 2;have c3:=KX.out.cell 3;have c4:=KX.out.cell 4;have c5:=KX.out.cell 5;have c6:=KX.out.cell 6;have c7:=KX.out.cell 7;have c8:=KX.out.cell 8;have c9:=KX.out.cell 9;have KZ:=Hd (aP.new0 V #[.string ⟨x.cause.toArray⟩,.string ⟨x.lot.toArray⟩,.string ⟨x.ins.toArray⟩,.int .i64 x.acq,.int .i64 x.cls,.string ⟨x.q.toArray⟩,.string ⟨x.p.toArray⟩,.string ⟨x.c.toArray⟩,.string ⟨x.df.toArray⟩,.string ⟨x.rp.toArray⟩] 42);have HBZ:Hid (Below V.heap.size V (V.alloc (.cells #[.string ⟨x.cause.toArray⟩,.string ⟨x.lot.toArray⟩,.string ⟨x.ins.toArray⟩,.int .i64 x.acq,.int .i64 x.cls,.string ⟨x.q.toArray⟩,.string ⟨x.p.toArray⟩,.string ⟨x.c.toArray⟩,.string ⟨x.df.toArray⟩,.string ⟨x.rp.toArray⟩] 42))):=aB _ _;go_upto_region 16 with fail
   generalize V.alloc _=V1 at *;clear c0 c1 c2' c3 c4 c5 c6 c7 c8 c9;refine dJ2 (C:=⟨V1.drewN 1,V.heap.size,V.heap.size,x,b2,o2,gs.length,c2,k,y⟩) ?M2 rfl rfl rfl ?_
   case M2 =>
    have hd:=aD (Br V1.heap.size V1) 1;have hj:=HVW.out.size;have hl:=Nat.lt_of_lt_of_le HJL.out hj;have hcc:∀o,V1.cell? ⟨b2,o,none⟩=wr.cell? ⟨b2,o,none⟩:=fun o=>(HBZ.out.cell (p:=⟨b2,o,none⟩) hl).trans (HVW.out.cell (p:=⟨b2,o,none⟩) HJL.out)
    exact⟨rfl,rfl,rfl,rfl,Nl _,KZ.out.below hd,hl,(hcc _).trans HJ.out.2.2.2.2.2.2.2.2.1,(hcc _).trans HJ.out.2.2.2.2.2.2.2.2.2,HKB.out.1,HKB.out.2⟩
   intro V2 hV2 hbz;have hV2:Below V.heap.size V V2:=(HBZ.out.trans ((aD (Br V1.heap.size V1) 1).mono HBZ.out.size)).trans hV2;have HV2:=Hd (aA HVW.out hV2);have KX:=Hd (KX.out.below hV2);clear hV2 KZ HBZ HVW;have up:=HUP.out;rw[up.cause,up.lot,up.ins,up.acq,up.cls,up.q,up.p,up.c] at hbz;have z0:=hbz.cell 0;have z1:=hbz.cell 1;have z2:=hbz.cell 2;have z3:=hbz.cell 3;have z4:=hbz.cell 4;have z5:=hbz.cell 5;have z6:=hbz.cell 6;have z7:=hbz.cell 7;have z8:=hbz.cell 8;have z9:=hbz.cell 9;have hcc:∀o,V2.cell? ⟨b2,o,none⟩=wr.cell? ⟨b2,o,none⟩:=fun o=>HV2.out.cell (p:=⟨b2,o,none⟩) HJL.out
   obtain⟨j0,j1,j2,j3,j4,j5,j6,j7,j8,j9⟩:=HJ.out;rw[<-hcc] at j0 j1 j2 j3 j4 j5 j6 j7 j8 j9;have HJ2:=Hd (And.intro j8 j9);clear hcc up hbz;simp only[iZ,dKa,List.foldl,List.setIfInBounds_toArray,List.set_cons_zero,List.set_cons_succ,dC2.val];go_wp2_with fail;go_quiet (fail);clear z0 z1 z2 z3 z4 z5 z6 z7 z8 z9 j0 j1 j2 j3 j4 j5 j6 j7 j8 j9;go_upto_region 19 with fail
   have hF:=HF.out;obtain⟨n1,hn1⟩:∃n1,n1 = !(x.rp==y.rp):=⟨_,rfl⟩
   obtain⟨n2,hn2⟩:∃n2,n2=(x.rp==x.q):=⟨_,rfl⟩
   obtain⟨n3,hn3⟩:∃n3,n3 = !(aJ (val x.p+val x.df)==x.c):=⟨_,rfl⟩
   rw[<-hn1,<-hn2,<-hn3] at hF;refine dJ1 (C:=⟨(V2.drewN nq).drewN 1,wr.heap.size,x,b2,o2,gs.length,c2,k,y,aJ (val x.p+val x.df),n1,n2,n3⟩) ?M3 rfl rfl rfl ?_
   case M3 =>
    have hd:=aD (aD (Br V2.heap.size V2) nq) 1;exact⟨rfl,rfl,rfl,rfl,KX.out.below hd,Nat.lt_of_lt_of_le HJL.out HV2.out.size,HJ2.out.1,HJ2.out.2,HKB.out.1,HKB.out.2,fun W hW=>HAD.out W (HE.out.below (aA hB.out (aA HV2.out (aA hd hW)))),by rw[hn1];simp,hn2.symm,by rw[hn3];simp⟩
   intro V3 hV3;have hV3:=aA (aD (aD (Br V2.heap.size V2) nq) 1) hV3;have HB9:=Hd (aA hB.out (aA HV2.out hV3));have HGT9:=Hd ((hGT.out.below HV2.out).below hV3);clear hV3 HV2 KX HJ HJ2 HAD HJL hGT hB hn1 hn2 hn3;simp only[iZ,dJ9,List.foldl,List.setIfInBounds_toArray,List.set_cons_zero,List.set_cons_succ,dJk.val,hF];have hgl:=HGL.out;go_wp2;go_round
   case rel=>exact⟨HB9,HGT9,k+1,by omega,by go_num⟩
   case measure=>simp[intOf];omega
  ·obtain rfl:k=gs.length:=by omega
   go_wp2_with fail;refine(HA.out _ hB.out).mono ?_;rintro e w9 ⟨rfl,hb⟩;go_wp2;go_ret;exact⟨rfl,aA hB.out hb⟩
end
end Go.Proofs.YtiloklnjjfaagaaGreatDoor
