/- Kinds4 -/
import Derived.Test.YtejkibnaidiklaaGreatDoorJMem
import Derived.Test.YtejkibnaidiklaaGreatDoorJReg
set_option maxHeartbeats 16000000
set_option maxRecDepth 100000
namespace Go.Proofs.YtejkibnaidiklaaGreatDoor
open Go Go.RowKit Go.Maps Go.MapKept Go.WideElems
noncomputable def eD:Array Oper:=(Tryz.f125.body.bind (Kf 6)).getD #[]
theorem iT{i:Nat}{o:Oper}{x:Op}(h:eD[i]?=some o)(e:(eD[i]?).map (·.op)=some x):o.op=x:=by rw[h] at e;exact Option.some.inj e
theorem fO{i:Nat}{o:Oper}{x:Option Tmp}(h:eD[i]?=some o)(e:(eD[i]?).map (·.dst)=some x):o.dst=x:=by rw[h] at e;exact Option.some.inj e
theorem dU{i:Nat}{o:Oper}{x:Option (Nat×Bool)}(h:eD[i]?=some o)(e:(eD[i]?).map (·.guard)=some x):o.guard=x:=by rw[h] at e;exact Option.some.inj e
theorem Oh:∀i,i<124→(match dK[i]? with|some (_,Df.ins j _)=>(sO.any fun p=>p.1.1==j&&p.2==i)|some (_,Df.oins _)=>(tR.any fun p=>p.2==i)|_=>true)=true:=by decide +kernel
theorem mA{i s j:Nat}{n:Int}{L:List Nat}(hL:(sO.all fun p=>!(p.1.1==j) || L.contains p.2)=true)(h:dK[i]?=some (s,.ins j n)):i∈L:=by
 have hl:=(Li.1 h).1;have h1:=Oh i (oK ▸ hl);rw[h] at h1;obtain⟨p,hp,e⟩:=List.any_eq_true.1 h1;have h2:=List.all_eq_true.1 hL p hp;simp only[Bool.and_eq_true,beq_iff_eq] at e;rw[e.1,e.2] at h2;simpa using h2
theorem Tx{i s:Nat}{n:Int}{L:List Nat}(hL:(tR.all fun p=>L.contains p.2)=true)(h:dK[i]?=some (s,.oins n)):i∈L:=by
 have hl:=(Li.1 h).1;have h1:=Oh i (oK ▸ hl);rw[h] at h1;obtain⟨p,hp,e⟩:=List.any_eq_true.1 h1;have h2:=List.all_eq_true.1 hL p hp;simp only[beq_iff_eq] at e;rw[e] at h2;simpa using h2
theorem aDh:(sO.all fun p=>match dK[p.2]? with|some (_,Df.ins j n)=>j==p.1.1&&n==p.1.2|_=>false)=true:=by decide +kernel
theorem jI{j:Nat}(hj:((jH j).all fun q=>sO.any fun p=>p.1.1==j&&p.1.2==q.1)=true):∀q,q∈jH j→∃(i s':Nat),dK[i]?=some (s',Df.ins j q.1):=by
 intro q hq;obtain⟨p,hp,e⟩:=List.any_eq_true.1 (List.all_eq_true.1 hj q hq);have h2:=List.all_eq_true.1 aDh p hp;simp only[Bool.and_eq_true,beq_iff_eq] at e;split at h2
 ·rename_i s j' n hx;simp only[Bool.and_eq_true,beq_iff_eq] at h2;refine⟨p.2,s,?_⟩;rw[hx,h2.1,h2.2,e.1,e.2]
 ·cases h2
section
variable {w0 w:World}{b1 b3 bt:Nat}{VP VL:Value}{h:bD}{l:Array Bool}{a:Act}{Q:Exit→Act→World→Prop}
set_option maxRecDepth 100000
abbrev KT(i:Nat):Prop:=∀ {w0 w:World}{b1 b3 bt:Nat}{VP VL:Value}{h:bD}{l:Array Bool}{a:Act}{Q:Exit→Act→World→Prop},KI w0 b1 b3 bt VP VL h l a w→i∈Region.ready .any eD l→wpOp Tryz.prog eD Q i (KN w0 b1 b3 bt VP VL (l.setIfInBounds i true)) a w
theorem kt{i:Nat}(op:Op)(d:Option Tmp)(e:((eD[i]?).map fun o=>(o.op,o.dst,o.guard))=some (op,d,none))
  (f:∀ {w0 w:World}{b1 b3 bt:Nat}{VP VL:Value}{h:bD}{l:Array Bool}{a:Act}{Q:Exit→Act→World→Prop}{o:Oper},KI w0 b1 b3 bt VP VL h l a w→i∈Region.ready .any eD l→l.getD i true=false→o.op=op→o.dst=d→o.wp Tryz.prog a w (KN w0 b1 b3 bt VP VL (l.setIfInBounds i true)) Q):KT i:=by
 intro w0 w b1 b3 bt VP VL h l a Q H hr;obtain⟨hu,o,ho,_⟩:=mem_ready.1 hr;rw[ho] at e;injection e with e
 injection e with e1 e2
 injection e2 with e2 e3
 exact bU ho e3 (f H hr hu e1 e2)
theorem aD8(H:KI w0 b1 b3 bt VP VL h l a w)(hr:0∈Region.ready .any eD l):wpOp Tryz.prog eD Q 0 (KN w0 b1 b3 bt VP VL (l.setIfInBounds 0 true)) a w:=by
 obtain⟨hu,o,ho,_⟩:=mem_ready.1 hr;have hop:o.op=.makeMap 159 none:=iT ho (by kernel_rfl);have hd:o.dst=some 15:=fO ho (by kernel_rfl);have hg:o.guard=none:=dU ho (by kernel_rfl);refine bU ho hg (fZ hop ?_);rw[hd];exact⟨_,H.omake (s:=15) (by kernel_rfl) hu (by decide)⟩
theorem aD7:KT 1:=kt (.move (.tmp 4)) (some 16) (by kernel_rfl) fun H _ hu hop hd=>H.mv_amt (s:=16) (by kernel_rfl) hu (by decide) hop hd
theorem aD6:KT 2:=kt (.call { callee:=.value (.tmp 16),args:=#[.const (.string ⟨[100,101,112,111,115,105,116].toArray⟩)],argTypes:=#[9] }) (some 17) (by kernel_rfl) fun H hr hu hop hd=>H.amount (s:=17) (by kernel_rfl) hu (by decide) hop hd (H.facts 1 16 (.fAmt) (by kernel_rfl) (aG hr (d:=1) (by kernel_rfl)))
theorem aD5:KT 3:=kt (.insert 159 (.tmp 15) (.const (.int .i64 1)) (.tmp 17)) (none) (by kernel_rfl) fun H hr hu hop hd=>H.oinsert (s:=1003) (k:=⟨[100,101,112,111,115,105,116],2,[(5,true,false)],[2],false⟩) (im:=0) (by kernel_rfl) hu (by decide) hop hd (by kernel_rfl) (aG hr (d:=0) (by kernel_rfl)) (H.facts 2 17 (.kind ⟨[100,101,112,111,115,105,116],2,[(5,true,false)],[2],false⟩) (by kernel_rfl) (aG hr (d:=2) (by kernel_rfl))) (List.mem_of_getElem? (i:=0) (by kernel_rfl)) (by rw[H.sz];decide)
theorem aD4:KT 4:=kt (.move (.tmp 4)) (some 18) (by kernel_rfl) fun H _ hu hop hd=>H.mv_amt (s:=18) (by kernel_rfl) hu (by decide) hop hd
theorem aD3:KT 5:=kt (.call { callee:=.value (.tmp 18),args:=#[.const (.string ⟨[119,105,116,104,100,114,97,119].toArray⟩)],argTypes:=#[9] }) (some 19) (by kernel_rfl) fun H hr hu hop hd=>H.amount (s:=19) (by kernel_rfl) hu (by decide) hop hd (H.facts 4 18 (.fAmt) (by kernel_rfl) (aG hr (d:=4) (by kernel_rfl)))
theorem aD2:KT 6:=kt (.insert 159 (.tmp 15) (.const (.int .i64 2)) (.tmp 19)) (none) (by kernel_rfl) fun H hr hu hop hd=>H.oinsert (s:=1006) (k:=⟨[119,105,116,104,100,114,97,119],2,[(5,true,false)],[2],false⟩) (im:=0) (by kernel_rfl) hu (by decide) hop hd (by kernel_rfl) (aG hr (d:=0) (by kernel_rfl)) (H.facts 5 19 (.kind ⟨[119,105,116,104,100,114,97,119],2,[(5,true,false)],[2],false⟩) (by kernel_rfl) (aG hr (d:=5) (by kernel_rfl))) (List.mem_of_getElem? (i:=1) (by kernel_rfl)) (by rw[H.sz];decide)
theorem aD1:KT 7:=kt (.load 206 (.tmp 3)) (some 20) (by kernel_rfl) fun H _ hu hop hd=>H.ld_of (s:=20) (by kernel_rfl) hu (by decide) hop hd
theorem aD0:KT 8:=kt (.move (.tmp 6)) (some 21) (by kernel_rfl) fun H _ hu hop hd=>H.mv_trade (s:=21) (by kernel_rfl) hu (by decide) hop hd
theorem aDz:KT 9:=kt (.buildSlice 187 1 #[(0,.const (.int .i64 0))]) (some 22) (by kernel_rfl) fun H _ hu hop hd=>H.rowed (s:=22) (r:=[0]) (by kernel_rfl) hu (by decide) hop hd (fun W=>by simp[Act.eval,go_sem])
theorem aDf:KT 10:=kt (.call { callee:=.value (.tmp 20),args:=#[.const (.string ⟨[98,117,121].toArray⟩),.const (.int .i64 3),.tmp 21,.tmp 22],argTypes:=#[9,3,155,187] }) (some 23) (by kernel_rfl) fun H hr hu hop hd=>H.of_trade (s:=23) (by kernel_rfl) hu (by decide) hop hd (H.facts 7 20 (.fOf) (by kernel_rfl) (aG hr (d:=7) (by kernel_rfl))) (H.facts 8 21 (.trade) (by kernel_rfl) (aG hr (d:=8) (by kernel_rfl))) (H.facts 9 22 (.row [0]) (by kernel_rfl) (aG hr (d:=9) (by kernel_rfl))) (by decide) (by decide)
theorem aDe:KT 11:=kt (.insert 159 (.tmp 15) (.const (.int .i64 3)) (.tmp 23)) (none) (by kernel_rfl) fun H hr hu hop hd=>H.oinsert (s:=1011) (k:=⟨[98,117,121],3,[(4,true,false),(5,false,false),(6,false,false)],[0],false⟩) (im:=0) (by kernel_rfl) hu (by decide) hop hd (by kernel_rfl) (aG hr (d:=0) (by kernel_rfl)) (H.facts 10 23 (.kind ⟨[98,117,121],3,[(4,true,false),(5,false,false),(6,false,false)],[0],false⟩) (by kernel_rfl) (aG hr (d:=10) (by kernel_rfl))) (List.mem_of_getElem? (i:=2) (by kernel_rfl)) (by rw[H.sz];decide)
theorem aDd:KT 12:=kt (.load 206 (.tmp 3)) (some 24) (by kernel_rfl) fun H _ hu hop hd=>H.ld_of (s:=24) (by kernel_rfl) hu (by decide) hop hd
theorem aDc:KT 13:=kt (.move (.tmp 6)) (some 25) (by kernel_rfl) fun H _ hu hop hd=>H.mv_trade (s:=25) (by kernel_rfl) hu (by decide) hop hd
theorem aDb:KT 14:=kt (.buildSlice 187 2 #[(0,.const (.int .i64 0)),(1,.const (.int .i64 10))]) (some 26) (by kernel_rfl) fun H _ hu hop hd=>H.rowed (s:=26) (r:=[0,10]) (by kernel_rfl) hu (by decide) hop hd (fun W=>by simp[Act.eval,go_sem])
theorem aDa:KT 15:=kt (.call { callee:=.value (.tmp 24),args:=#[.const (.string ⟨[115,101,108,108].toArray⟩),.const (.int .i64 3),.tmp 25,.tmp 26],argTypes:=#[9,3,155,187] }) (some 27) (by kernel_rfl) fun H hr hu hop hd=>H.of_trade (s:=27) (by kernel_rfl) hu (by decide) hop hd (H.facts 12 24 (.fOf) (by kernel_rfl) (aG hr (d:=12) (by kernel_rfl))) (H.facts 13 25 (.trade) (by kernel_rfl) (aG hr (d:=13) (by kernel_rfl))) (H.facts 14 26 (.row [0,10]) (by kernel_rfl) (aG hr (d:=14) (by kernel_rfl))) (by decide) (by decide)
theorem aC9:KT 16:=kt (.insert 159 (.tmp 15) (.const (.int .i64 4)) (.tmp 27)) (none) (by kernel_rfl) fun H hr hu hop hd=>H.oinsert (s:=1016) (k:=⟨[115,101,108,108],3,[(4,true,false),(5,false,false),(6,false,false)],[0,10],false⟩) (im:=0) (by kernel_rfl) hu (by decide) hop hd (by kernel_rfl) (aG hr (d:=0) (by kernel_rfl)) (H.facts 15 27 (.kind ⟨[115,101,108,108],3,[(4,true,false),(5,false,false),(6,false,false)],[0,10],false⟩) (by kernel_rfl) (aG hr (d:=15) (by kernel_rfl))) (List.mem_of_getElem? (i:=3) (by kernel_rfl)) (by rw[H.sz];decide)
theorem aC8:KT 17:=kt (.load 206 (.tmp 3)) (some 28) (by kernel_rfl) fun H _ hu hop hd=>H.ld_of (s:=28) (by kernel_rfl) hu (by decide) hop hd
theorem aC7(H:KI w0 b1 b3 bt VP VL h l a w)(hr:18∈Region.ready .any eD l):wpOp Tryz.prog eD Q 18 (KN w0 b1 b3 bt VP VL (l.setIfInBounds 18 true)) a w:=by
 obtain⟨hu,o,ho,_⟩:=mem_ready.1 hr;have hop:o.op=.makeMap 155 none:=iT ho (by kernel_rfl);have hd:o.dst=some 29:=fO ho (by kernel_rfl);have hg:o.guard=none:=dU ho (by kernel_rfl);refine bU ho hg (fZ hop ?_);rw[hd];exact⟨_,H.make (s:=29) (j:=0) (by kernel_rfl) hu (by decide)⟩
theorem aC6:KT 19:=kt (.load 204 (.tmp 1)) (some 30) (by kernel_rfl) fun H _ hu hop hd=>H.ld_pos (s:=30) (by kernel_rfl) hu (by decide) hop hd
theorem aC5:KT 20:=kt (.insert 155 (.tmp 29) (.const (.int .i64 7)) (.tmp 30)) (none) (by kernel_rfl) fun H hr hu hop hd=>H.insert (s:=1020) (j:=0) (pq:=(true,false)) (im:=18) (by kernel_rfl) hu (by decide) hop hd (by kernel_rfl) (aG hr (d:=18) (by kernel_rfl)) (H.facts 19 30 (.lim true false) (by kernel_rfl) (aG hr (d:=19) (by kernel_rfl))) (by decide +kernel) (by rw[H.sz];decide)
theorem aC4(H:KI w0 b1 b3 bt VP VL h l a w)(hr:21∈Region.ready .any eD l):wpOp Tryz.prog eD Q 21 (KN w0 b1 b3 bt VP VL (l.setIfInBounds 21 true)) a w:=by
 obtain⟨hu,o,ho,_⟩:=mem_ready.1 hr;have hop:o.op=.move (.tmp 29):=iT ho (by kernel_rfl);have hd:o.dst=some 31:=fO ho (by kernel_rfl);have hg:o.guard=none:=dU ho (by kernel_rfl);exact bU ho hg (H.same (s:=31) (m:=29) (j:=0) (im:=18) (by kernel_rfl) hu (by decide) hop hd (by decide) (by kernel_rfl) (aG hr (d:=18) (by kernel_rfl)) (fun i s' n hx=>(show ∀x,x∈[20]→on l x from List.forall_mem_cons.2 ⟨(aG hr (d:=20) (by kernel_rfl)),(fun x hx=>nomatch hx)⟩) i (mA (j:=0) (by decide +kernel) hx)))
theorem aC3:KT 22:=kt (.buildSlice 187 1 #[(0,.const (.int .i64 0))]) (some 32) (by kernel_rfl) fun H _ hu hop hd=>H.rowed (s:=32) (r:=[0]) (by kernel_rfl) hu (by decide) hop hd (fun W=>by simp[Act.eval,go_sem])
theorem aC2:KT 23:=kt (.call { callee:=.value (.tmp 28),args:=#[.const (.string ⟨[105,110,99,111,109,101].toArray⟩),.const (.int .i64 1),.tmp 31,.tmp 32],argTypes:=#[9,3,155,187] }) (some 33) (by kernel_rfl) fun H hr hu hop hd=>H.of (s:=33) (m:=29) (j:=0) (by kernel_rfl) hu (by decide) hop hd (H.facts 17 28 (.fOf) (by kernel_rfl) (aG hr (d:=17) (by kernel_rfl))) (H.facts 21 31 (.same 29 0) (by kernel_rfl) (aG hr (d:=21) (by kernel_rfl))) (H.facts 22 32 (.row [0]) (by kernel_rfl) (aG hr (d:=22) (by kernel_rfl))) (jI (by decide +kernel)) (by decide) (by decide)
theorem aC1:KT 24:=kt (.insert 159 (.tmp 15) (.const (.int .i64 5)) (.tmp 33)) (none) (by kernel_rfl) fun H hr hu hop hd=>H.oinsert (s:=1024) (k:=⟨[105,110,99,111,109,101],1,[(7,true,false)],[0],false⟩) (im:=0) (by kernel_rfl) hu (by decide) hop hd (by kernel_rfl) (aG hr (d:=0) (by kernel_rfl)) (H.facts 23 33 (.kind ⟨[105,110,99,111,109,101],1,[(7,true,false)],[0],false⟩) (by kernel_rfl) (aG hr (d:=23) (by kernel_rfl))) (List.mem_of_getElem? (i:=4) (by kernel_rfl)) (by rw[H.sz];decide)
theorem aC0:KT 25:=kt (.move (.tmp 4)) (some 34) (by kernel_rfl) fun H _ hu hop hd=>H.mv_amt (s:=34) (by kernel_rfl) hu (by decide) hop hd
theorem aCz:KT 26:=kt (.call { callee:=.value (.tmp 34),args:=#[.const (.string ⟨[101,120,112,101,110,115,101].toArray⟩)],argTypes:=#[9] }) (some 35) (by kernel_rfl) fun H hr hu hop hd=>H.amount (s:=35) (by kernel_rfl) hu (by decide) hop hd (H.facts 25 34 (.fAmt) (by kernel_rfl) (aG hr (d:=25) (by kernel_rfl)))
theorem aCy:KT 27:=kt (.insert 159 (.tmp 15) (.const (.int .i64 6)) (.tmp 35)) (none) (by kernel_rfl) fun H hr hu hop hd=>H.oinsert (s:=1027) (k:=⟨[101,120,112,101,110,115,101],2,[(5,true,false)],[2],false⟩) (im:=0) (by kernel_rfl) hu (by decide) hop hd (by kernel_rfl) (aG hr (d:=0) (by kernel_rfl)) (H.facts 26 35 (.kind ⟨[101,120,112,101,110,115,101],2,[(5,true,false)],[2],false⟩) (by kernel_rfl) (aG hr (d:=26) (by kernel_rfl))) (List.mem_of_getElem? (i:=5) (by kernel_rfl)) (by rw[H.sz];decide)
theorem aCx:KT 28:=kt (.move (.tmp 5)) (some 36) (by kernel_rfl) fun H _ hu hop hd=>H.mv_wc (s:=36) (by kernel_rfl) hu (by decide) hop hd
theorem aCw:KT 29:=kt (.load 206 (.tmp 3)) (some 37) (by kernel_rfl) fun H _ hu hop hd=>H.ld_of (s:=37) (by kernel_rfl) hu (by decide) hop hd
theorem aCv(H:KI w0 b1 b3 bt VP VL h l a w)(hr:30∈Region.ready .any eD l):wpOp Tryz.prog eD Q 30 (KN w0 b1 b3 bt VP VL (l.setIfInBounds 30 true)) a w:=by
 obtain⟨hu,o,ho,_⟩:=mem_ready.1 hr;have hop:o.op=.makeMap 155 none:=iT ho (by kernel_rfl);have hd:o.dst=some 38:=fO ho (by kernel_rfl);have hg:o.guard=none:=dU ho (by kernel_rfl);refine bU ho hg (fZ hop ?_);rw[hd];exact⟨_,H.make (s:=38) (j:=1) (by kernel_rfl) hu (by decide)⟩
theorem aCu:KT 31:=kt (.load 204 (.tmp 1)) (some 39) (by kernel_rfl) fun H _ hu hop hd=>H.ld_pos (s:=39) (by kernel_rfl) hu (by decide) hop hd
theorem aCt:KT 32:=kt (.insert 155 (.tmp 38) (.const (.int .i64 4)) (.tmp 39)) (none) (by kernel_rfl) fun H hr hu hop hd=>H.insert (s:=1032) (j:=1) (pq:=(true,false)) (im:=30) (by kernel_rfl) hu (by decide) hop hd (by kernel_rfl) (aG hr (d:=30) (by kernel_rfl)) (H.facts 31 39 (.lim true false) (by kernel_rfl) (aG hr (d:=31) (by kernel_rfl))) (by decide +kernel) (by rw[H.sz];decide)
theorem aCs:KT 33:=kt (.load 204 (.tmp 1)) (some 40) (by kernel_rfl) fun H _ hu hop hd=>H.ld_pos (s:=40) (by kernel_rfl) hu (by decide) hop hd
theorem aCr:KT 34:=kt (.insert 155 (.tmp 38) (.const (.int .i64 5)) (.tmp 40)) (none) (by kernel_rfl) fun H hr hu hop hd=>H.insert (s:=1034) (j:=1) (pq:=(true,false)) (im:=30) (by kernel_rfl) hu (by decide) hop hd (by kernel_rfl) (aG hr (d:=30) (by kernel_rfl)) (H.facts 33 40 (.lim true false) (by kernel_rfl) (aG hr (d:=33) (by kernel_rfl))) (by decide +kernel) (by rw[H.sz];decide)
theorem aCq(H:KI w0 b1 b3 bt VP VL h l a w)(hr:35∈Region.ready .any eD l):wpOp Tryz.prog eD Q 35 (KN w0 b1 b3 bt VP VL (l.setIfInBounds 35 true)) a w:=by
 obtain⟨hu,o,ho,_⟩:=mem_ready.1 hr;have hop:o.op=.move (.tmp 38):=iT ho (by kernel_rfl);have hd:o.dst=some 41:=fO ho (by kernel_rfl);have hg:o.guard=none:=dU ho (by kernel_rfl);exact bU ho hg (H.same (s:=41) (m:=38) (j:=1) (im:=30) (by kernel_rfl) hu (by decide) hop hd (by decide) (by kernel_rfl) (aG hr (d:=30) (by kernel_rfl)) (fun i s' n hx=>(show ∀x,x∈[32,34]→on l x from List.forall_mem_cons.2 ⟨(aG hr (d:=32) (by kernel_rfl)),List.forall_mem_cons.2 ⟨(aG hr (d:=34) (by kernel_rfl)),(fun x hx=>nomatch hx)⟩⟩) i (mA (j:=1) (by decide +kernel) hx)))
theorem aCp:KT 36:=kt (.buildSlice 187 2 #[(0,.const (.int .i64 1)),(1,.const (.int .i64 2))]) (some 42) (by kernel_rfl) fun H _ hu hop hd=>H.rowed (s:=42) (r:=[1,2]) (by kernel_rfl) hu (by decide) hop hd (fun W=>by simp[Act.eval,go_sem])
theorem aCo:KT 37:=kt (.call { callee:=.value (.tmp 37),args:=#[.const (.string ⟨[99,111,110,118,101,114,116].toArray⟩),.const (.int .i64 2),.tmp 41,.tmp 42],argTypes:=#[9,3,155,187] }) (some 43) (by kernel_rfl) fun H hr hu hop hd=>H.of (s:=43) (m:=38) (j:=1) (by kernel_rfl) hu (by decide) hop hd (H.facts 29 37 (.fOf) (by kernel_rfl) (aG hr (d:=29) (by kernel_rfl))) (H.facts 35 41 (.same 38 1) (by kernel_rfl) (aG hr (d:=35) (by kernel_rfl))) (H.facts 36 42 (.row [1,2]) (by kernel_rfl) (aG hr (d:=36) (by kernel_rfl))) (jI (by decide +kernel)) (by decide) (by decide)
theorem aCn:KT 38:=kt (.call { callee:=.value (.tmp 36),args:=#[.tmp 43],argTypes:=#[157] }) (some 44) (by kernel_rfl) fun H hr hu hop hd=>H.code (s:=44) (by kernel_rfl) hu (by decide) hop hd (H.facts 28 36 (.fWc) (by kernel_rfl) (aG hr (d:=28) (by kernel_rfl))) (H.facts 37 43 (.kind ⟨[99,111,110,118,101,114,116],2,[(4,true,false),(5,true,false)],[1,2],false⟩) (by kernel_rfl) (aG hr (d:=37) (by kernel_rfl)))
theorem aCm:KT 39:=kt (.insert 159 (.tmp 15) (.const (.int .i64 7)) (.tmp 44)) (none) (by kernel_rfl) fun H hr hu hop hd=>H.oinsert (s:=1039) (k:=⟨[99,111,110,118,101,114,116],2,[(4,true,false),(5,true,false)],[1,2],true⟩) (im:=0) (by kernel_rfl) hu (by decide) hop hd (by kernel_rfl) (aG hr (d:=0) (by kernel_rfl)) (H.facts 38 44 (.kind ⟨[99,111,110,118,101,114,116],2,[(4,true,false),(5,true,false)],[1,2],true⟩) (by kernel_rfl) (aG hr (d:=38) (by kernel_rfl))) (List.mem_of_getElem? (i:=6) (by kernel_rfl)) (by rw[H.sz];decide)
theorem aCl:KT 40:=kt (.load 206 (.tmp 3)) (some 45) (by kernel_rfl) fun H _ hu hop hd=>H.ld_of (s:=45) (by kernel_rfl) hu (by decide) hop hd
theorem aCk(H:KI w0 b1 b3 bt VP VL h l a w)(hr:41∈Region.ready .any eD l):wpOp Tryz.prog eD Q 41 (KN w0 b1 b3 bt VP VL (l.setIfInBounds 41 true)) a w:=by
 obtain⟨hu,o,ho,_⟩:=mem_ready.1 hr;have hop:o.op=.makeMap 155 none:=iT ho (by kernel_rfl);have hd:o.dst=some 46:=fO ho (by kernel_rfl);have hg:o.guard=none:=dU ho (by kernel_rfl);refine bU ho hg (fZ hop ?_);rw[hd];exact⟨_,H.make (s:=46) (j:=2) (by kernel_rfl) hu (by decide)⟩
theorem aCj:KT 42:=kt (.move (.tmp 2)) (some 47) (by kernel_rfl) fun H _ hu hop hd=>H.mv_least (s:=47) (by kernel_rfl) hu (by decide) hop hd
theorem aCi:KT 43:=kt (.insert 155 (.tmp 46) (.const (.int .i64 7)) (.tmp 47)) (none) (by kernel_rfl) fun H hr hu hop hd=>H.insert (s:=1043) (j:=2) (pq:=(false,false)) (im:=41) (by kernel_rfl) hu (by decide) hop hd (by kernel_rfl) (aG hr (d:=41) (by kernel_rfl)) (H.facts 42 47 (.lim false false) (by kernel_rfl) (aG hr (d:=42) (by kernel_rfl))) (by decide +kernel) (by rw[H.sz];decide)
theorem aCh:KT 44:=kt (.load 204 (.tmp 1)) (some 48) (by kernel_rfl) fun H _ hu hop hd=>H.ld_pos (s:=48) (by kernel_rfl) hu (by decide) hop hd
theorem aCg:KT 45:=kt (.insert 155 (.tmp 46) (.const (.int .i64 8)) (.tmp 48)) (none) (by kernel_rfl) fun H hr hu hop hd=>H.insert (s:=1045) (j:=2) (pq:=(true,false)) (im:=41) (by kernel_rfl) hu (by decide) hop hd (by kernel_rfl) (aG hr (d:=41) (by kernel_rfl)) (H.facts 44 48 (.lim true false) (by kernel_rfl) (aG hr (d:=44) (by kernel_rfl))) (by decide +kernel) (by rw[H.sz];decide)
theorem aCf(H:KI w0 b1 b3 bt VP VL h l a w)(hr:46∈Region.ready .any eD l):wpOp Tryz.prog eD Q 46 (KN w0 b1 b3 bt VP VL (l.setIfInBounds 46 true)) a w:=by
 obtain⟨hu,o,ho,_⟩:=mem_ready.1 hr;have hop:o.op=.move (.tmp 46):=iT ho (by kernel_rfl);have hd:o.dst=some 49:=fO ho (by kernel_rfl);have hg:o.guard=none:=dU ho (by kernel_rfl);exact bU ho hg (H.same (s:=49) (m:=46) (j:=2) (im:=41) (by kernel_rfl) hu (by decide) hop hd (by decide) (by kernel_rfl) (aG hr (d:=41) (by kernel_rfl)) (fun i s' n hx=>(show ∀x,x∈[43,45]→on l x from List.forall_mem_cons.2 ⟨(aG hr (d:=43) (by kernel_rfl)),List.forall_mem_cons.2 ⟨(aG hr (d:=45) (by kernel_rfl)),(fun x hx=>nomatch hx)⟩⟩) i (mA (j:=2) (by decide +kernel) hx)))
theorem aCe:KT 47:=kt (.buildSlice 187 1 #[(0,.const (.int .i64 0))]) (some 50) (by kernel_rfl) fun H _ hu hop hd=>H.rowed (s:=50) (r:=[0]) (by kernel_rfl) hu (by decide) hop hd (fun W=>by simp[Act.eval,go_sem])
theorem aCd:KT 48:=kt (.call { callee:=.value (.tmp 45),args:=#[.const (.string ⟨[115,112,108,105,116].toArray⟩),.const (.int .i64 1),.tmp 49,.tmp 50],argTypes:=#[9,3,155,187] }) (some 51) (by kernel_rfl) fun H hr hu hop hd=>H.of (s:=51) (m:=46) (j:=2) (by kernel_rfl) hu (by decide) hop hd (H.facts 40 45 (.fOf) (by kernel_rfl) (aG hr (d:=40) (by kernel_rfl))) (H.facts 46 49 (.same 46 2) (by kernel_rfl) (aG hr (d:=46) (by kernel_rfl))) (H.facts 47 50 (.row [0]) (by kernel_rfl) (aG hr (d:=47) (by kernel_rfl))) (jI (by decide +kernel)) (by decide) (by decide)
theorem aCc:KT 49:=kt (.insert 159 (.tmp 15) (.const (.int .i64 8)) (.tmp 51)) (none) (by kernel_rfl) fun H hr hu hop hd=>H.oinsert (s:=1049) (k:=⟨[115,112,108,105,116],1,[(7,false,false),(8,true,false)],[0],false⟩) (im:=0) (by kernel_rfl) hu (by decide) hop hd (by kernel_rfl) (aG hr (d:=0) (by kernel_rfl)) (H.facts 48 51 (.kind ⟨[115,112,108,105,116],1,[(7,false,false),(8,true,false)],[0],false⟩) (by kernel_rfl) (aG hr (d:=48) (by kernel_rfl))) (List.mem_of_getElem? (i:=7) (by kernel_rfl)) (by rw[H.sz];decide)
theorem aCb:KT 50:=kt (.load 206 (.tmp 3)) (some 52) (by kernel_rfl) fun H _ hu hop hd=>H.ld_of (s:=52) (by kernel_rfl) hu (by decide) hop hd
theorem aCa(H:KI w0 b1 b3 bt VP VL h l a w)(hr:51∈Region.ready .any eD l):wpOp Tryz.prog eD Q 51 (KN w0 b1 b3 bt VP VL (l.setIfInBounds 51 true)) a w:=by
 obtain⟨hu,o,ho,_⟩:=mem_ready.1 hr;have hop:o.op=.makeMap 155 none:=iT ho (by kernel_rfl);have hd:o.dst=some 53:=fO ho (by kernel_rfl);have hg:o.guard=none:=dU ho (by kernel_rfl);refine bU ho hg (fZ hop ?_);rw[hd];exact⟨_,H.make (s:=53) (j:=3) (by kernel_rfl) hu (by decide)⟩
theorem aB9:KT 52:=kt (.move (.tmp 2)) (some 54) (by kernel_rfl) fun H _ hu hop hd=>H.mv_least (s:=54) (by kernel_rfl) hu (by decide) hop hd
theorem aB8:KT 53:=kt (.insert 155 (.tmp 53) (.const (.int .i64 7)) (.tmp 54)) (none) (by kernel_rfl) fun H hr hu hop hd=>H.insert (s:=1053) (j:=3) (pq:=(false,false)) (im:=51) (by kernel_rfl) hu (by decide) hop hd (by kernel_rfl) (aG hr (d:=51) (by kernel_rfl)) (H.facts 52 54 (.lim false false) (by kernel_rfl) (aG hr (d:=52) (by kernel_rfl))) (by decide +kernel) (by rw[H.sz];decide)
theorem aB7:KT 54:=kt (.load 204 (.tmp 1)) (some 55) (by kernel_rfl) fun H _ hu hop hd=>H.ld_pos (s:=55) (by kernel_rfl) hu (by decide) hop hd
theorem aB6:KT 55:=kt (.insert 155 (.tmp 53) (.const (.int .i64 8)) (.tmp 55)) (none) (by kernel_rfl) fun H hr hu hop hd=>H.insert (s:=1055) (j:=3) (pq:=(true,false)) (im:=51) (by kernel_rfl) hu (by decide) hop hd (by kernel_rfl) (aG hr (d:=51) (by kernel_rfl)) (H.facts 54 55 (.lim true false) (by kernel_rfl) (aG hr (d:=54) (by kernel_rfl))) (by decide +kernel) (by rw[H.sz];decide)
theorem aB5:KT 56:=kt (.call { callee:=.value (.func 178),args:=#[.const (.bool false),.const (.bool true)],argTypes:=#[4,4] }) (some 56) (by kernel_rfl) fun H _ hu hop hd=>H.lim3 (s:=56) (by kernel_rfl) hu (by decide) hop hd
theorem aB4:KT 57:=kt (.insert 155 (.tmp 53) (.const (.int .i64 9)) (.tmp 56)) (none) (by kernel_rfl) fun H hr hu hop hd=>H.insert (s:=1057) (j:=3) (pq:=(false,true)) (im:=51) (by kernel_rfl) hu (by decide) hop hd (by kernel_rfl) (aG hr (d:=51) (by kernel_rfl)) (H.facts 56 56 (.lim false true) (by kernel_rfl) (aG hr (d:=56) (by kernel_rfl))) (by decide +kernel) (by rw[H.sz];decide)
theorem aB3(H:KI w0 b1 b3 bt VP VL h l a w)(hr:58∈Region.ready .any eD l):wpOp Tryz.prog eD Q 58 (KN w0 b1 b3 bt VP VL (l.setIfInBounds 58 true)) a w:=by
 obtain⟨hu,o,ho,_⟩:=mem_ready.1 hr;have hop:o.op=.move (.tmp 53):=iT ho (by kernel_rfl);have hd:o.dst=some 57:=fO ho (by kernel_rfl);have hg:o.guard=none:=dU ho (by kernel_rfl);exact bU ho hg (H.same (s:=57) (m:=53) (j:=3) (im:=51) (by kernel_rfl) hu (by decide) hop hd (by decide) (by kernel_rfl) (aG hr (d:=51) (by kernel_rfl)) (fun i s' n hx=>(show ∀x,x∈[53,55,57]→on l x from List.forall_mem_cons.2 ⟨(aG hr (d:=53) (by kernel_rfl)),List.forall_mem_cons.2 ⟨(aG hr (d:=55) (by kernel_rfl)),List.forall_mem_cons.2 ⟨(aG hr (d:=57) (by kernel_rfl)),(fun x hx=>nomatch hx)⟩⟩⟩) i (mA (j:=3) (by decide +kernel) hx)))
theorem aB2:KT 59:=kt (.buildSlice 187 2 #[(0,.const (.int .i64 0)),(1,.const (.int .i64 1))]) (some 58) (by kernel_rfl) fun H _ hu hop hd=>H.rowed (s:=58) (r:=[0,1]) (by kernel_rfl) hu (by decide) hop hd (fun W=>by simp[Act.eval,go_sem])
theorem aB1:KT 60:=kt (.call { callee:=.value (.tmp 52),args:=#[.const (.string ⟨[115,112,105,110,111,102,102].toArray⟩),.const (.int .i64 1),.tmp 57,.tmp 58],argTypes:=#[9,3,155,187] }) (some 59) (by kernel_rfl) fun H hr hu hop hd=>H.of (s:=59) (m:=53) (j:=3) (by kernel_rfl) hu (by decide) hop hd (H.facts 50 52 (.fOf) (by kernel_rfl) (aG hr (d:=50) (by kernel_rfl))) (H.facts 58 57 (.same 53 3) (by kernel_rfl) (aG hr (d:=58) (by kernel_rfl))) (H.facts 59 58 (.row [0,1]) (by kernel_rfl) (aG hr (d:=59) (by kernel_rfl))) (jI (by decide +kernel)) (by decide) (by decide)
theorem aB0:KT 61:=kt (.insert 159 (.tmp 15) (.const (.int .i64 9)) (.tmp 59)) (none) (by kernel_rfl) fun H hr hu hop hd=>H.oinsert (s:=1061) (k:=⟨[115,112,105,110,111,102,102],1,[(7,false,false),(8,true,false),(9,false,true)],[0,1],false⟩) (im:=0) (by kernel_rfl) hu (by decide) hop hd (by kernel_rfl) (aG hr (d:=0) (by kernel_rfl)) (H.facts 60 59 (.kind ⟨[115,112,105,110,111,102,102],1,[(7,false,false),(8,true,false),(9,false,true)],[0,1],false⟩) (by kernel_rfl) (aG hr (d:=60) (by kernel_rfl))) (List.mem_of_getElem? (i:=8) (by kernel_rfl)) (by rw[H.sz];decide)
theorem aBz:KT 62:=kt (.load 206 (.tmp 3)) (some 60) (by kernel_rfl) fun H _ hu hop hd=>H.ld_of (s:=60) (by kernel_rfl) hu (by decide) hop hd
theorem aBy:KT 63:=kt (.buildSlice 187 2 #[(0,.const (.int .i64 0)),(1,.const (.int .i64 11))]) (some 61) (by kernel_rfl) fun H _ hu hop hd=>H.rowed (s:=61) (r:=[0,11]) (by kernel_rfl) hu (by decide) hop hd (fun W=>by simp[Act.eval,go_sem])
theorem aBx:KT 64:=kt (.call { callee:=.value (.tmp 60),args:=#[.const (.string ⟨[101,120,99,104,97,110,103,101].toArray⟩),.const (.int .i64 1),.const (.map none),.tmp 61],argTypes:=#[9,3,155,187] }) (some 62) (by kernel_rfl) fun H hr hu hop hd=>H.of_nil (s:=62) (by kernel_rfl) hu (by decide) hop hd (H.facts 62 60 (.fOf) (by kernel_rfl) (aG hr (d:=62) (by kernel_rfl))) (H.facts 63 61 (.row [0,11]) (by kernel_rfl) (aG hr (d:=63) (by kernel_rfl))) (by decide) (by decide)
theorem aBw:KT 65:=kt (.insert 159 (.tmp 15) (.const (.int .i64 10)) (.tmp 62)) (none) (by kernel_rfl) fun H hr hu hop hd=>H.oinsert (s:=1065) (k:=⟨[101,120,99,104,97,110,103,101],1,[],[0,11],false⟩) (im:=0) (by kernel_rfl) hu (by decide) hop hd (by kernel_rfl) (aG hr (d:=0) (by kernel_rfl)) (H.facts 64 62 (.kind ⟨[101,120,99,104,97,110,103,101],1,[],[0,11],false⟩) (by kernel_rfl) (aG hr (d:=64) (by kernel_rfl))) (List.mem_of_getElem? (i:=9) (by kernel_rfl)) (by rw[H.sz];decide)
theorem aBv:KT 66:=kt (.load 206 (.tmp 3)) (some 63) (by kernel_rfl) fun H _ hu hop hd=>H.ld_of (s:=63) (by kernel_rfl) hu (by decide) hop hd
theorem aBu:KT 67:=kt (.buildSlice 187 3 #[(0,.const (.int .i64 0)),(1,.const (.int .i64 3)),(2,.const (.int .i64 12))]) (some 64) (by kernel_rfl) fun H _ hu hop hd=>H.rowed (s:=64) (r:=[0,3,12]) (by kernel_rfl) hu (by decide) hop hd (fun W=>by simp[Act.eval,go_sem])
theorem aBt:KT 68:=kt (.call { callee:=.value (.tmp 63),args:=#[.const (.string ⟨[101,108,101,99,116].toArray⟩),.const (.int .i64 4),.const (.map none),.tmp 64],argTypes:=#[9,3,155,187] }) (some 65) (by kernel_rfl) fun H hr hu hop hd=>H.of_nil (s:=65) (by kernel_rfl) hu (by decide) hop hd (H.facts 66 63 (.fOf) (by kernel_rfl) (aG hr (d:=66) (by kernel_rfl))) (H.facts 67 64 (.row [0,3,12]) (by kernel_rfl) (aG hr (d:=67) (by kernel_rfl))) (by decide) (by decide)
theorem aBs:KT 69:=kt (.insert 159 (.tmp 15) (.const (.int .i64 11)) (.tmp 65)) (none) (by kernel_rfl) fun H hr hu hop hd=>H.oinsert (s:=1069) (k:=⟨[101,108,101,99,116],4,[],[0,3,12],false⟩) (im:=0) (by kernel_rfl) hu (by decide) hop hd (by kernel_rfl) (aG hr (d:=0) (by kernel_rfl)) (H.facts 68 65 (.kind ⟨[101,108,101,99,116],4,[],[0,3,12],false⟩) (by kernel_rfl) (aG hr (d:=68) (by kernel_rfl))) (List.mem_of_getElem? (i:=10) (by kernel_rfl)) (by rw[H.sz];decide)
theorem aBr:KT 70:=kt (.load 206 (.tmp 3)) (some 66) (by kernel_rfl) fun H _ hu hop hd=>H.ld_of (s:=66) (by kernel_rfl) hu (by decide) hop hd
theorem aBq(H:KI w0 b1 b3 bt VP VL h l a w)(hr:71∈Region.ready .any eD l):wpOp Tryz.prog eD Q 71 (KN w0 b1 b3 bt VP VL (l.setIfInBounds 71 true)) a w:=by
 obtain⟨hu,o,ho,_⟩:=mem_ready.1 hr;have hop:o.op=.makeMap 155 none:=iT ho (by kernel_rfl);have hd:o.dst=some 67:=fO ho (by kernel_rfl);have hg:o.guard=none:=dU ho (by kernel_rfl);refine bU ho hg (fZ hop ?_);rw[hd];exact⟨_,H.make (s:=67) (j:=4) (by kernel_rfl) hu (by decide)⟩
theorem aBp:KT 72:=kt (.load 204 (.tmp 1)) (some 68) (by kernel_rfl) fun H _ hu hop hd=>H.ld_pos (s:=68) (by kernel_rfl) hu (by decide) hop hd
theorem aBo:KT 73:=kt (.insert 155 (.tmp 67) (.const (.int .i64 4)) (.tmp 68)) (none) (by kernel_rfl) fun H hr hu hop hd=>H.insert (s:=1073) (j:=4) (pq:=(true,false)) (im:=71) (by kernel_rfl) hu (by decide) hop hd (by kernel_rfl) (aG hr (d:=71) (by kernel_rfl)) (H.facts 72 68 (.lim true false) (by kernel_rfl) (aG hr (d:=72) (by kernel_rfl))) (by decide +kernel) (by rw[H.sz];decide)
theorem aBn:KT 74:=kt (.move (.tmp 2)) (some 69) (by kernel_rfl) fun H _ hu hop hd=>H.mv_least (s:=69) (by kernel_rfl) hu (by decide) hop hd
theorem aBm:KT 75:=kt (.insert 155 (.tmp 67) (.const (.int .i64 7)) (.tmp 69)) (none) (by kernel_rfl) fun H hr hu hop hd=>H.insert (s:=1075) (j:=4) (pq:=(false,false)) (im:=71) (by kernel_rfl) hu (by decide) hop hd (by kernel_rfl) (aG hr (d:=71) (by kernel_rfl)) (H.facts 74 69 (.lim false false) (by kernel_rfl) (aG hr (d:=74) (by kernel_rfl))) (by decide +kernel) (by rw[H.sz];decide)
theorem aBl:KT 76:=kt (.load 204 (.tmp 1)) (some 70) (by kernel_rfl) fun H _ hu hop hd=>H.ld_pos (s:=70) (by kernel_rfl) hu (by decide) hop hd
theorem aBk:KT 77:=kt (.insert 155 (.tmp 67) (.const (.int .i64 8)) (.tmp 70)) (none) (by kernel_rfl) fun H hr hu hop hd=>H.insert (s:=1077) (j:=4) (pq:=(true,false)) (im:=71) (by kernel_rfl) hu (by decide) hop hd (by kernel_rfl) (aG hr (d:=71) (by kernel_rfl)) (H.facts 76 70 (.lim true false) (by kernel_rfl) (aG hr (d:=76) (by kernel_rfl))) (by decide +kernel) (by rw[H.sz];decide)
theorem aBj(H:KI w0 b1 b3 bt VP VL h l a w)(hr:78∈Region.ready .any eD l):wpOp Tryz.prog eD Q 78 (KN w0 b1 b3 bt VP VL (l.setIfInBounds 78 true)) a w:=by
 obtain⟨hu,o,ho,_⟩:=mem_ready.1 hr;have hop:o.op=.move (.tmp 67):=iT ho (by kernel_rfl);have hd:o.dst=some 71:=fO ho (by kernel_rfl);have hg:o.guard=none:=dU ho (by kernel_rfl);exact bU ho hg (H.same (s:=71) (m:=67) (j:=4) (im:=71) (by kernel_rfl) hu (by decide) hop hd (by decide) (by kernel_rfl) (aG hr (d:=71) (by kernel_rfl)) (fun i s' n hx=>(show ∀x,x∈[73,75,77]→on l x from List.forall_mem_cons.2 ⟨(aG hr (d:=73) (by kernel_rfl)),List.forall_mem_cons.2 ⟨(aG hr (d:=75) (by kernel_rfl)),List.forall_mem_cons.2 ⟨(aG hr (d:=77) (by kernel_rfl)),(fun x hx=>nomatch hx)⟩⟩⟩) i (mA (j:=4) (by decide +kernel) hx)))
theorem aBi:KT 79:=kt (.buildSlice 187 2 #[(0,.const (.int .i64 0)),(1,.const (.int .i64 1))]) (some 72) (by kernel_rfl) fun H _ hu hop hd=>H.rowed (s:=72) (r:=[0,1]) (by kernel_rfl) hu (by decide) hop hd (fun W=>by simp[Act.eval,go_sem])
theorem aBh:KT 80:=kt (.call { callee:=.value (.tmp 66),args:=#[.const (.string ⟨[101,120,101,114,99,105,115,101].toArray⟩),.const (.int .i64 3),.tmp 71,.tmp 72],argTypes:=#[9,3,155,187] }) (some 73) (by kernel_rfl) fun H hr hu hop hd=>H.of (s:=73) (m:=67) (j:=4) (by kernel_rfl) hu (by decide) hop hd (H.facts 70 66 (.fOf) (by kernel_rfl) (aG hr (d:=70) (by kernel_rfl))) (H.facts 78 71 (.same 67 4) (by kernel_rfl) (aG hr (d:=78) (by kernel_rfl))) (H.facts 79 72 (.row [0,1]) (by kernel_rfl) (aG hr (d:=79) (by kernel_rfl))) (jI (by decide +kernel)) (by decide) (by decide)
theorem aBg:KT 81:=kt (.insert 159 (.tmp 15) (.const (.int .i64 12)) (.tmp 73)) (none) (by kernel_rfl) fun H hr hu hop hd=>H.oinsert (s:=1081) (k:=⟨[101,120,101,114,99,105,115,101],3,[(4,true,false),(7,false,false),(8,true,false)],[0,1],false⟩) (im:=0) (by kernel_rfl) hu (by decide) hop hd (by kernel_rfl) (aG hr (d:=0) (by kernel_rfl)) (H.facts 80 73 (.kind ⟨[101,120,101,114,99,105,115,101],3,[(4,true,false),(7,false,false),(8,true,false)],[0,1],false⟩) (by kernel_rfl) (aG hr (d:=80) (by kernel_rfl))) (List.mem_of_getElem? (i:=11) (by kernel_rfl)) (by rw[H.sz];decide)
theorem aBf:KT 82:=kt (.load 206 (.tmp 3)) (some 74) (by kernel_rfl) fun H _ hu hop hd=>H.ld_of (s:=74) (by kernel_rfl) hu (by decide) hop hd
theorem aBe(H:KI w0 b1 b3 bt VP VL h l a w)(hr:83∈Region.ready .any eD l):wpOp Tryz.prog eD Q 83 (KN w0 b1 b3 bt VP VL (l.setIfInBounds 83 true)) a w:=by
 obtain⟨hu,o,ho,_⟩:=mem_ready.1 hr;have hop:o.op=.makeMap 155 none:=iT ho (by kernel_rfl);have hd:o.dst=some 75:=fO ho (by kernel_rfl);have hg:o.guard=none:=dU ho (by kernel_rfl);refine bU ho hg (fZ hop ?_);rw[hd];exact⟨_,H.make (s:=75) (j:=5) (by kernel_rfl) hu (by decide)⟩
theorem aBd:KT 84:=kt (.load 204 (.tmp 1)) (some 76) (by kernel_rfl) fun H _ hu hop hd=>H.ld_pos (s:=76) (by kernel_rfl) hu (by decide) hop hd
theorem aBc:KT 85:=kt (.insert 155 (.tmp 75) (.const (.int .i64 7)) (.tmp 76)) (none) (by kernel_rfl) fun H hr hu hop hd=>H.insert (s:=1085) (j:=5) (pq:=(true,false)) (im:=83) (by kernel_rfl) hu (by decide) hop hd (by kernel_rfl) (aG hr (d:=83) (by kernel_rfl)) (H.facts 84 76 (.lim true false) (by kernel_rfl) (aG hr (d:=84) (by kernel_rfl))) (by decide +kernel) (by rw[H.sz];decide)
theorem aBb(H:KI w0 b1 b3 bt VP VL h l a w)(hr:86∈Region.ready .any eD l):wpOp Tryz.prog eD Q 86 (KN w0 b1 b3 bt VP VL (l.setIfInBounds 86 true)) a w:=by
 obtain⟨hu,o,ho,_⟩:=mem_ready.1 hr;have hop:o.op=.move (.tmp 75):=iT ho (by kernel_rfl);have hd:o.dst=some 77:=fO ho (by kernel_rfl);have hg:o.guard=none:=dU ho (by kernel_rfl);exact bU ho hg (H.same (s:=77) (m:=75) (j:=5) (im:=83) (by kernel_rfl) hu (by decide) hop hd (by decide) (by kernel_rfl) (aG hr (d:=83) (by kernel_rfl)) (fun i s' n hx=>(show ∀x,x∈[85]→on l x from List.forall_mem_cons.2 ⟨(aG hr (d:=85) (by kernel_rfl)),(fun x hx=>nomatch hx)⟩) i (mA (j:=5) (by decide +kernel) hx)))
theorem aBa:KT 87:=kt (.buildSlice 187 1 #[(0,.const (.int .i64 0))]) (some 78) (by kernel_rfl) fun H _ hu hop hd=>H.rowed (s:=78) (r:=[0]) (by kernel_rfl) hu (by decide) hop hd (fun W=>by simp[Act.eval,go_sem])
theorem aA9:KT 88:=kt (.call { callee:=.value (.tmp 74),args:=#[.const (.string ⟨[99,97,112,105,116,97,108].toArray⟩),.const (.int .i64 1),.tmp 77,.tmp 78],argTypes:=#[9,3,155,187] }) (some 79) (by kernel_rfl) fun H hr hu hop hd=>H.of (s:=79) (m:=75) (j:=5) (by kernel_rfl) hu (by decide) hop hd (H.facts 82 74 (.fOf) (by kernel_rfl) (aG hr (d:=82) (by kernel_rfl))) (H.facts 86 77 (.same 75 5) (by kernel_rfl) (aG hr (d:=86) (by kernel_rfl))) (H.facts 87 78 (.row [0]) (by kernel_rfl) (aG hr (d:=87) (by kernel_rfl))) (jI (by decide +kernel)) (by decide) (by decide)
theorem aA8:KT 89:=kt (.insert 159 (.tmp 15) (.const (.int .i64 13)) (.tmp 79)) (none) (by kernel_rfl) fun H hr hu hop hd=>H.oinsert (s:=1089) (k:=⟨[99,97,112,105,116,97,108],1,[(7,true,false)],[0],false⟩) (im:=0) (by kernel_rfl) hu (by decide) hop hd (by kernel_rfl) (aG hr (d:=0) (by kernel_rfl)) (H.facts 88 79 (.kind ⟨[99,97,112,105,116,97,108],1,[(7,true,false)],[0],false⟩) (by kernel_rfl) (aG hr (d:=88) (by kernel_rfl))) (List.mem_of_getElem? (i:=12) (by kernel_rfl)) (by rw[H.sz];decide)
theorem aA7:KT 90:=kt (.load 206 (.tmp 3)) (some 80) (by kernel_rfl) fun H _ hu hop hd=>H.ld_of (s:=80) (by kernel_rfl) hu (by decide) hop hd
theorem aA6(H:KI w0 b1 b3 bt VP VL h l a w)(hr:91∈Region.ready .any eD l):wpOp Tryz.prog eD Q 91 (KN w0 b1 b3 bt VP VL (l.setIfInBounds 91 true)) a w:=by
 obtain⟨hu,o,ho,_⟩:=mem_ready.1 hr;have hop:o.op=.makeMap 155 none:=iT ho (by kernel_rfl);have hd:o.dst=some 81:=fO ho (by kernel_rfl);have hg:o.guard=none:=dU ho (by kernel_rfl);refine bU ho hg (fZ hop ?_);rw[hd];exact⟨_,H.make (s:=81) (j:=6) (by kernel_rfl) hu (by decide)⟩
theorem aA5:KT 92:=kt (.move (.tmp 2)) (some 82) (by kernel_rfl) fun H _ hu hop hd=>H.mv_least (s:=82) (by kernel_rfl) hu (by decide) hop hd
theorem aA4:KT 93:=kt (.insert 155 (.tmp 81) (.const (.int .i64 7)) (.tmp 82)) (none) (by kernel_rfl) fun H hr hu hop hd=>H.insert (s:=1093) (j:=6) (pq:=(false,false)) (im:=91) (by kernel_rfl) hu (by decide) hop hd (by kernel_rfl) (aG hr (d:=91) (by kernel_rfl)) (H.facts 92 82 (.lim false false) (by kernel_rfl) (aG hr (d:=92) (by kernel_rfl))) (by decide +kernel) (by rw[H.sz];decide)
theorem aA3(H:KI w0 b1 b3 bt VP VL h l a w)(hr:94∈Region.ready .any eD l):wpOp Tryz.prog eD Q 94 (KN w0 b1 b3 bt VP VL (l.setIfInBounds 94 true)) a w:=by
 obtain⟨hu,o,ho,_⟩:=mem_ready.1 hr;have hop:o.op=.move (.tmp 81):=iT ho (by kernel_rfl);have hd:o.dst=some 83:=fO ho (by kernel_rfl);have hg:o.guard=none:=dU ho (by kernel_rfl);exact bU ho hg (H.same (s:=83) (m:=81) (j:=6) (im:=91) (by kernel_rfl) hu (by decide) hop hd (by decide) (by kernel_rfl) (aG hr (d:=91) (by kernel_rfl)) (fun i s' n hx=>(show ∀x,x∈[93]→on l x from List.forall_mem_cons.2 ⟨(aG hr (d:=93) (by kernel_rfl)),(fun x hx=>nomatch hx)⟩) i (mA (j:=6) (by decide +kernel) hx)))
theorem aA2:KT 95:=kt (.buildSlice 187 1 #[(0,.const (.int .i64 0))]) (some 84) (by kernel_rfl) fun H _ hu hop hd=>H.rowed (s:=84) (r:=[0]) (by kernel_rfl) hu (by decide) hop hd (fun W=>by simp[Act.eval,go_sem])
theorem aA1:KT 96:=kt (.call { callee:=.value (.tmp 80),args:=#[.const (.string ⟨[99,97,108,108].toArray⟩),.const (.int .i64 1),.tmp 83,.tmp 84],argTypes:=#[9,3,155,187] }) (some 85) (by kernel_rfl) fun H hr hu hop hd=>H.of (s:=85) (m:=81) (j:=6) (by kernel_rfl) hu (by decide) hop hd (H.facts 90 80 (.fOf) (by kernel_rfl) (aG hr (d:=90) (by kernel_rfl))) (H.facts 94 83 (.same 81 6) (by kernel_rfl) (aG hr (d:=94) (by kernel_rfl))) (H.facts 95 84 (.row [0]) (by kernel_rfl) (aG hr (d:=95) (by kernel_rfl))) (jI (by decide +kernel)) (by decide) (by decide)
theorem aA0:KT 97:=kt (.insert 159 (.tmp 15) (.const (.int .i64 14)) (.tmp 85)) (none) (by kernel_rfl) fun H hr hu hop hd=>H.oinsert (s:=1097) (k:=⟨[99,97,108,108],1,[(7,false,false)],[0],false⟩) (im:=0) (by kernel_rfl) hu (by decide) hop hd (by kernel_rfl) (aG hr (d:=0) (by kernel_rfl)) (H.facts 96 85 (.kind ⟨[99,97,108,108],1,[(7,false,false)],[0],false⟩) (by kernel_rfl) (aG hr (d:=96) (by kernel_rfl))) (List.mem_of_getElem? (i:=13) (by kernel_rfl)) (by rw[H.sz];decide)
theorem aAz:KT 98:=kt (.load 206 (.tmp 3)) (some 86) (by kernel_rfl) fun H _ hu hop hd=>H.ld_of (s:=86) (by kernel_rfl) hu (by decide) hop hd
theorem aAy(H:KI w0 b1 b3 bt VP VL h l a w)(hr:99∈Region.ready .any eD l):wpOp Tryz.prog eD Q 99 (KN w0 b1 b3 bt VP VL (l.setIfInBounds 99 true)) a w:=by
 obtain⟨hu,o,ho,_⟩:=mem_ready.1 hr;have hop:o.op=.makeMap 155 none:=iT ho (by kernel_rfl);have hd:o.dst=some 87:=fO ho (by kernel_rfl);have hg:o.guard=none:=dU ho (by kernel_rfl);refine bU ho hg (fZ hop ?_);rw[hd];exact⟨_,H.make (s:=87) (j:=7) (by kernel_rfl) hu (by decide)⟩
theorem Yn:KT 100:=kt (.move (.tmp 2)) (some 88) (by kernel_rfl) fun H _ hu hop hd=>H.mv_least (s:=88) (by kernel_rfl) hu (by decide) hop hd
theorem Ym:KT 101:=kt (.insert 155 (.tmp 87) (.const (.int .i64 7)) (.tmp 88)) (none) (by kernel_rfl) fun H hr hu hop hd=>H.insert (s:=1101) (j:=7) (pq:=(false,false)) (im:=99) (by kernel_rfl) hu (by decide) hop hd (by kernel_rfl) (aG hr (d:=99) (by kernel_rfl)) (H.facts 100 88 (.lim false false) (by kernel_rfl) (aG hr (d:=100) (by kernel_rfl))) (by decide +kernel) (by rw[H.sz];decide)
theorem Yl(H:KI w0 b1 b3 bt VP VL h l a w)(hr:102∈Region.ready .any eD l):wpOp Tryz.prog eD Q 102 (KN w0 b1 b3 bt VP VL (l.setIfInBounds 102 true)) a w:=by
 obtain⟨hu,o,ho,_⟩:=mem_ready.1 hr;have hop:o.op=.move (.tmp 87):=iT ho (by kernel_rfl);have hd:o.dst=some 89:=fO ho (by kernel_rfl);have hg:o.guard=none:=dU ho (by kernel_rfl);exact bU ho hg (H.same (s:=89) (m:=87) (j:=7) (im:=99) (by kernel_rfl) hu (by decide) hop hd (by decide) (by kernel_rfl) (aG hr (d:=99) (by kernel_rfl)) (fun i s' n hx=>(show ∀x,x∈[101]→on l x from List.forall_mem_cons.2 ⟨(aG hr (d:=101) (by kernel_rfl)),(fun x hx=>nomatch hx)⟩) i (mA (j:=7) (by decide +kernel) hx)))
theorem Yk:KT 103:=kt (.buildSlice 187 1 #[(0,.const (.int .i64 0))]) (some 90) (by kernel_rfl) fun H _ hu hop hd=>H.rowed (s:=90) (r:=[0]) (by kernel_rfl) hu (by decide) hop hd (fun W=>by simp[Act.eval,go_sem])
theorem Yj:KT 104:=kt (.call { callee:=.value (.tmp 86),args:=#[.const (.string ⟨[112,114,105,99,101].toArray⟩),.const (.int .i64 4),.tmp 89,.tmp 90],argTypes:=#[9,3,155,187] }) (some 91) (by kernel_rfl) fun H hr hu hop hd=>H.of (s:=91) (m:=87) (j:=7) (by kernel_rfl) hu (by decide) hop hd (H.facts 98 86 (.fOf) (by kernel_rfl) (aG hr (d:=98) (by kernel_rfl))) (H.facts 102 89 (.same 87 7) (by kernel_rfl) (aG hr (d:=102) (by kernel_rfl))) (H.facts 103 90 (.row [0]) (by kernel_rfl) (aG hr (d:=103) (by kernel_rfl))) (jI (by decide +kernel)) (by decide) (by decide)
theorem Yi:KT 105:=kt (.insert 159 (.tmp 15) (.const (.int .i64 15)) (.tmp 91)) (none) (by kernel_rfl) fun H hr hu hop hd=>H.oinsert (s:=1105) (k:=⟨[112,114,105,99,101],4,[(7,false,false)],[0],false⟩) (im:=0) (by kernel_rfl) hu (by decide) hop hd (by kernel_rfl) (aG hr (d:=0) (by kernel_rfl)) (H.facts 104 91 (.kind ⟨[112,114,105,99,101],4,[(7,false,false)],[0],false⟩) (by kernel_rfl) (aG hr (d:=104) (by kernel_rfl))) (List.mem_of_getElem? (i:=14) (by kernel_rfl)) (by rw[H.sz];decide)
theorem Yh:KT 106:=kt (.move (.tmp 5)) (some 92) (by kernel_rfl) fun H _ hu hop hd=>H.mv_wc (s:=92) (by kernel_rfl) hu (by decide) hop hd
theorem Yg:KT 107:=kt (.load 206 (.tmp 3)) (some 93) (by kernel_rfl) fun H _ hu hop hd=>H.ld_of (s:=93) (by kernel_rfl) hu (by decide) hop hd
theorem Yf(H:KI w0 b1 b3 bt VP VL h l a w)(hr:108∈Region.ready .any eD l):wpOp Tryz.prog eD Q 108 (KN w0 b1 b3 bt VP VL (l.setIfInBounds 108 true)) a w:=by
 obtain⟨hu,o,ho,_⟩:=mem_ready.1 hr;have hop:o.op=.makeMap 155 none:=iT ho (by kernel_rfl);have hd:o.dst=some 94:=fO ho (by kernel_rfl);have hg:o.guard=none:=dU ho (by kernel_rfl);refine bU ho hg (fZ hop ?_);rw[hd];exact⟨_,H.make (s:=94) (j:=8) (by kernel_rfl) hu (by decide)⟩
theorem Ye:KT 109:=kt (.load 204 (.tmp 1)) (some 95) (by kernel_rfl) fun H _ hu hop hd=>H.ld_pos (s:=95) (by kernel_rfl) hu (by decide) hop hd
theorem Yd:KT 110:=kt (.insert 155 (.tmp 94) (.const (.int .i64 8)) (.tmp 95)) (none) (by kernel_rfl) fun H hr hu hop hd=>H.insert (s:=1110) (j:=8) (pq:=(true,false)) (im:=108) (by kernel_rfl) hu (by decide) hop hd (by kernel_rfl) (aG hr (d:=108) (by kernel_rfl)) (H.facts 109 95 (.lim true false) (by kernel_rfl) (aG hr (d:=109) (by kernel_rfl))) (by decide +kernel) (by rw[H.sz];decide)
theorem Yc(H:KI w0 b1 b3 bt VP VL h l a w)(hr:111∈Region.ready .any eD l):wpOp Tryz.prog eD Q 111 (KN w0 b1 b3 bt VP VL (l.setIfInBounds 111 true)) a w:=by
 obtain⟨hu,o,ho,_⟩:=mem_ready.1 hr;have hop:o.op=.move (.tmp 94):=iT ho (by kernel_rfl);have hd:o.dst=some 96:=fO ho (by kernel_rfl);have hg:o.guard=none:=dU ho (by kernel_rfl);exact bU ho hg (H.same (s:=96) (m:=94) (j:=8) (im:=108) (by kernel_rfl) hu (by decide) hop hd (by decide) (by kernel_rfl) (aG hr (d:=108) (by kernel_rfl)) (fun i s' n hx=>(show ∀x,x∈[110]→on l x from List.forall_mem_cons.2 ⟨(aG hr (d:=110) (by kernel_rfl)),(fun x hx=>nomatch hx)⟩) i (mA (j:=8) (by decide +kernel) hx)))
theorem Yb:KT 112:=kt (.buildSlice 187 2 #[(0,.const (.int .i64 1)),(1,.const (.int .i64 2))]) (some 97) (by kernel_rfl) fun H _ hu hop hd=>H.rowed (s:=97) (r:=[1,2]) (by kernel_rfl) hu (by decide) hop hd (fun W=>by simp[Act.eval,go_sem])
theorem Ya:KT 113:=kt (.call { callee:=.value (.tmp 93),args:=#[.const (.string ⟨[114,97,116,101].toArray⟩),.const (.int .i64 4),.tmp 96,.tmp 97],argTypes:=#[9,3,155,187] }) (some 98) (by kernel_rfl) fun H hr hu hop hd=>H.of (s:=98) (m:=94) (j:=8) (by kernel_rfl) hu (by decide) hop hd (H.facts 107 93 (.fOf) (by kernel_rfl) (aG hr (d:=107) (by kernel_rfl))) (H.facts 111 96 (.same 94 8) (by kernel_rfl) (aG hr (d:=111) (by kernel_rfl))) (H.facts 112 97 (.row [1,2]) (by kernel_rfl) (aG hr (d:=112) (by kernel_rfl))) (jI (by decide +kernel)) (by decide) (by decide)
theorem Xz:KT 114:=kt (.call { callee:=.value (.tmp 92),args:=#[.tmp 98],argTypes:=#[157] }) (some 99) (by kernel_rfl) fun H hr hu hop hd=>H.code (s:=99) (by kernel_rfl) hu (by decide) hop hd (H.facts 106 92 (.fWc) (by kernel_rfl) (aG hr (d:=106) (by kernel_rfl))) (H.facts 113 98 (.kind ⟨[114,97,116,101],4,[(8,true,false)],[1,2],false⟩) (by kernel_rfl) (aG hr (d:=113) (by kernel_rfl)))
theorem Xy:KT 115:=kt (.insert 159 (.tmp 15) (.const (.int .i64 16)) (.tmp 99)) (none) (by kernel_rfl) fun H hr hu hop hd=>H.oinsert (s:=1115) (k:=⟨[114,97,116,101],4,[(8,true,false)],[1,2],true⟩) (im:=0) (by kernel_rfl) hu (by decide) hop hd (by kernel_rfl) (aG hr (d:=0) (by kernel_rfl)) (H.facts 114 99 (.kind ⟨[114,97,116,101],4,[(8,true,false)],[1,2],true⟩) (by kernel_rfl) (aG hr (d:=114) (by kernel_rfl))) (List.mem_of_getElem? (i:=15) (by kernel_rfl)) (by rw[H.sz];decide)
theorem Xx:KT 116:=kt (.move (.tmp 4)) (some 100) (by kernel_rfl) fun H _ hu hop hd=>H.mv_amt (s:=100) (by kernel_rfl) hu (by decide) hop hd
theorem Xw:KT 117:=kt (.call { callee:=.value (.tmp 100),args:=#[.const (.string ⟨[105,115,115,117,101].toArray⟩)],argTypes:=#[9] }) (some 101) (by kernel_rfl) fun H hr hu hop hd=>H.amount (s:=101) (by kernel_rfl) hu (by decide) hop hd (H.facts 116 100 (.fAmt) (by kernel_rfl) (aG hr (d:=116) (by kernel_rfl)))
theorem Xv:KT 118:=kt (.insert 159 (.tmp 15) (.const (.int .i64 17)) (.tmp 101)) (none) (by kernel_rfl) fun H hr hu hop hd=>H.oinsert (s:=1118) (k:=⟨[105,115,115,117,101],2,[(5,true,false)],[2],false⟩) (im:=0) (by kernel_rfl) hu (by decide) hop hd (by kernel_rfl) (aG hr (d:=0) (by kernel_rfl)) (H.facts 117 101 (.kind ⟨[105,115,115,117,101],2,[(5,true,false)],[2],false⟩) (by kernel_rfl) (aG hr (d:=117) (by kernel_rfl))) (List.mem_of_getElem? (i:=16) (by kernel_rfl)) (by rw[H.sz];decide)
theorem Xu:KT 119:=kt (.move (.tmp 4)) (some 102) (by kernel_rfl) fun H _ hu hop hd=>H.mv_amt (s:=102) (by kernel_rfl) hu (by decide) hop hd
theorem Xt:KT 120:=kt (.call { callee:=.value (.tmp 102),args:=#[.const (.string ⟨[99,97,110,99,101,108].toArray⟩)],argTypes:=#[9] }) (some 103) (by kernel_rfl) fun H hr hu hop hd=>H.amount (s:=103) (by kernel_rfl) hu (by decide) hop hd (H.facts 119 102 (.fAmt) (by kernel_rfl) (aG hr (d:=119) (by kernel_rfl)))
theorem Xs:KT 121:=kt (.insert 159 (.tmp 15) (.const (.int .i64 18)) (.tmp 103)) (none) (by kernel_rfl) fun H hr hu hop hd=>H.oinsert (s:=1121) (k:=⟨[99,97,110,99,101,108],2,[(5,true,false)],[2],false⟩) (im:=0) (by kernel_rfl) hu (by decide) hop hd (by kernel_rfl) (aG hr (d:=0) (by kernel_rfl)) (H.facts 120 103 (.kind ⟨[99,97,110,99,101,108],2,[(5,true,false)],[2],false⟩) (by kernel_rfl) (aG hr (d:=120) (by kernel_rfl))) (List.mem_of_getElem? (i:=17) (by kernel_rfl)) (by rw[H.sz];decide)
theorem Xr(H:KI w0 b1 b3 bt VP VL h l a w)(hr:122∈Region.ready .any eD l):wpOp Tryz.prog eD Q 122 (KN w0 b1 b3 bt VP VL (l.setIfInBounds 122 true)) a w:=by
 obtain⟨hu,o,ho,_⟩:=mem_ready.1 hr;have hop:o.op=.move (.tmp 15):=iT ho (by kernel_rfl);have hd:o.dst=some 104:=fO ho (by kernel_rfl);have hg:o.guard=none:=dU ho (by kernel_rfl);exact bU ho hg (H.osame (s:=104) (im:=0) (by kernel_rfl) hu (by decide) hop hd (by decide) (by kernel_rfl) (aG hr (d:=0) (by kernel_rfl)) (fun i s' n hx=>(show ∀x,x∈[3,6,11,16,24,27,39,49,61,65,69,81,89,97,105,115,118,121]→on l x from List.forall_mem_cons.2 ⟨(aG hr (d:=3) (by kernel_rfl)),List.forall_mem_cons.2 ⟨(aG hr (d:=6) (by kernel_rfl)),List.forall_mem_cons.2 ⟨(aG hr (d:=11) (by kernel_rfl)),List.forall_mem_cons.2 ⟨(aG hr (d:=16) (by kernel_rfl)),List.forall_mem_cons.2 ⟨(aG hr (d:=24) (by kernel_rfl)),List.forall_mem_cons.2 ⟨(aG hr (d:=27) (by kernel_rfl)),List.forall_mem_cons.2 ⟨(aG hr (d:=39) (by kernel_rfl)),List.forall_mem_cons.2 ⟨(aG hr (d:=49) (by kernel_rfl)),List.forall_mem_cons.2 ⟨(aG hr (d:=61) (by kernel_rfl)),List.forall_mem_cons.2 ⟨(aG hr (d:=65) (by kernel_rfl)),List.forall_mem_cons.2 ⟨(aG hr (d:=69) (by kernel_rfl)),List.forall_mem_cons.2 ⟨(aG hr (d:=81) (by kernel_rfl)),List.forall_mem_cons.2 ⟨(aG hr (d:=89) (by kernel_rfl)),List.forall_mem_cons.2 ⟨(aG hr (d:=97) (by kernel_rfl)),List.forall_mem_cons.2 ⟨(aG hr (d:=105) (by kernel_rfl)),List.forall_mem_cons.2 ⟨(aG hr (d:=115) (by kernel_rfl)),List.forall_mem_cons.2 ⟨(aG hr (d:=118) (by kernel_rfl)),List.forall_mem_cons.2 ⟨(aG hr (d:=121) (by kernel_rfl)),(fun x hx=>nomatch hx)⟩⟩⟩⟩⟩⟩⟩⟩⟩⟩⟩⟩⟩⟩⟩⟩⟩⟩) i (Tx (by decide +kernel) hx)))
theorem Xq:KT 123:=kt (.assign (.tmp 104)) (some 0) (by kernel_rfl) fun H hr hu hop hd=>H.oend (s:=0) (m:=15) (m2:=104) (by kernel_rfl) hu (by decide) hop hd (by decide) (H.facts 122 104 (.osame 15) (by kernel_rfl) (aG hr (d:=122) (by kernel_rfl)))
theorem iU:eD.size=124:=by kernel_rfl
theorem Yo:((List.range 124).all fun i=>((eD[i]?).map fun o=>o.after.all fun e=>decide (e.on<i)).getD true)=true:=by kernel_rfl
theorem Lc{i:Nat}(H:KN w0 b1 b3 bt VP VL l a w)(hr:i∈Region.ready .any eD l):wpOp Tryz.prog eD Q i (KN w0 b1 b3 bt VP VL (l.setIfInBounds i true)) a w:=by
 obtain⟨h,H⟩:=H;have hi:i<124:=by
  obtain⟨_,o,ho,_⟩:=mem_ready.1 hr;have:=(Ai.1 ho).1;rw[iU] at this;exact this
 match i,hi,hr with
 |0,_,hr=>exact aD8 H hr
 |1,_,hr=>exact aD7 H hr
 |2,_,hr=>exact aD6 H hr
 |3,_,hr=>exact aD5 H hr
 |4,_,hr=>exact aD4 H hr
 |5,_,hr=>exact aD3 H hr
 |6,_,hr=>exact aD2 H hr
 |7,_,hr=>exact aD1 H hr
 |8,_,hr=>exact aD0 H hr
 |9,_,hr=>exact aDz H hr
 |10,_,hr=>exact aDf H hr
 |11,_,hr=>exact aDe H hr
 |12,_,hr=>exact aDd H hr
 |13,_,hr=>exact aDc H hr
 |14,_,hr=>exact aDb H hr
 |15,_,hr=>exact aDa H hr
 |16,_,hr=>exact aC9 H hr
 |17,_,hr=>exact aC8 H hr
 |18,_,hr=>exact aC7 H hr
 |19,_,hr=>exact aC6 H hr
 |20,_,hr=>exact aC5 H hr
 |21,_,hr=>exact aC4 H hr
 |22,_,hr=>exact aC3 H hr
 |23,_,hr=>exact aC2 H hr
 |24,_,hr=>exact aC1 H hr
 |25,_,hr=>exact aC0 H hr
 |26,_,hr=>exact aCz H hr
 |27,_,hr=>exact aCy H hr
 |28,_,hr=>exact aCx H hr
 |29,_,hr=>exact aCw H hr
 |30,_,hr=>exact aCv H hr
 |31,_,hr=>exact aCu H hr
 |32,_,hr=>exact aCt H hr
 |33,_,hr=>exact aCs H hr
 |34,_,hr=>exact aCr H hr
 |35,_,hr=>exact aCq H hr
 |36,_,hr=>exact aCp H hr
 |37,_,hr=>exact aCo H hr
 |38,_,hr=>exact aCn H hr
 |39,_,hr=>exact aCm H hr
 |40,_,hr=>exact aCl H hr
 |41,_,hr=>exact aCk H hr
 |42,_,hr=>exact aCj H hr
 |43,_,hr=>exact aCi H hr
 |44,_,hr=>exact aCh H hr
 |45,_,hr=>exact aCg H hr
 |46,_,hr=>exact aCf H hr
 |47,_,hr=>exact aCe H hr
 |48,_,hr=>exact aCd H hr
 |49,_,hr=>exact aCc H hr
 |50,_,hr=>exact aCb H hr
 |51,_,hr=>exact aCa H hr
 |52,_,hr=>exact aB9 H hr
 |53,_,hr=>exact aB8 H hr
 |54,_,hr=>exact aB7 H hr
 |55,_,hr=>exact aB6 H hr
 |56,_,hr=>exact aB5 H hr
 |57,_,hr=>exact aB4 H hr
 |58,_,hr=>exact aB3 H hr
 |59,_,hr=>exact aB2 H hr
 |60,_,hr=>exact aB1 H hr
 |61,_,hr=>exact aB0 H hr
 |62,_,hr=>exact aBz H hr
 |63,_,hr=>exact aBy H hr
 |64,_,hr=>exact aBx H hr
 |65,_,hr=>exact aBw H hr
 |66,_,hr=>exact aBv H hr
 |67,_,hr=>exact aBu H hr
 |68,_,hr=>exact aBt H hr
 |69,_,hr=>exact aBs H hr
 |70,_,hr=>exact aBr H hr
 |71,_,hr=>exact aBq H hr
 |72,_,hr=>exact aBp H hr
 |73,_,hr=>exact aBo H hr
 |74,_,hr=>exact aBn H hr
 |75,_,hr=>exact aBm H hr
 |76,_,hr=>exact aBl H hr
 |77,_,hr=>exact aBk H hr
 |78,_,hr=>exact aBj H hr
 |79,_,hr=>exact aBi H hr
 |80,_,hr=>exact aBh H hr
 |81,_,hr=>exact aBg H hr
 |82,_,hr=>exact aBf H hr
 |83,_,hr=>exact aBe H hr
 |84,_,hr=>exact aBd H hr
 |85,_,hr=>exact aBc H hr
 |86,_,hr=>exact aBb H hr
 |87,_,hr=>exact aBa H hr
 |88,_,hr=>exact aA9 H hr
 |89,_,hr=>exact aA8 H hr
 |90,_,hr=>exact aA7 H hr
 |91,_,hr=>exact aA6 H hr
 |92,_,hr=>exact aA5 H hr
 |93,_,hr=>exact aA4 H hr
 |94,_,hr=>exact aA3 H hr
 |95,_,hr=>exact aA2 H hr
 |96,_,hr=>exact aA1 H hr
 |97,_,hr=>exact aA0 H hr
 |98,_,hr=>exact aAz H hr
 |99,_,hr=>exact aAy H hr
 |100,_,hr=>exact Yn H hr
 |101,_,hr=>exact Ym H hr
 |102,_,hr=>exact Yl H hr
 |103,_,hr=>exact Yk H hr
 |104,_,hr=>exact Yj H hr
 |105,_,hr=>exact Yi H hr
 |106,_,hr=>exact Yh H hr
 |107,_,hr=>exact Yg H hr
 |108,_,hr=>exact Yf H hr
 |109,_,hr=>exact Ye H hr
 |110,_,hr=>exact Yd H hr
 |111,_,hr=>exact Yc H hr
 |112,_,hr=>exact Yb H hr
 |113,_,hr=>exact Ya H hr
 |114,_,hr=>exact Xz H hr
 |115,_,hr=>exact Xy H hr
 |116,_,hr=>exact Xx H hr
 |117,_,hr=>exact Xw H hr
 |118,_,hr=>exact Xv H hr
 |119,_,hr=>exact Xu H hr
 |120,_,hr=>exact Xt H hr
 |121,_,hr=>exact Xs H hr
 |122,_,hr=>exact Xr H hr
 |123,_,hr=>exact Xq H hr
 |n+124,hi,_=>exact absurd hi (by omega)
theorem Eb(H:KN w0 b1 b3 bt VP VL (Array.replicate 124 false) a (w.drewN 1))(hQ:∀a w l,KN w0 b1 b3 bt VP VL l a w→(∀i,i<124→on l i)→Q .normal a w):(Code.region 6 eD true).wp Tryz.prog Q a w:=by
 refine wp_region_any (by kernel_rfl) ?_;have hrep:Array.replicate eD.size false=Array.replicate 124 false:=by rw[iU]
 refine uQ (KN w0 b1 b3 bt VP VL) (fun l a w hi hr=>?_) (fun l a w i hi hr=>Lc hi hr) _ _ _ _ ?_ ?_
 ·have hsz:l.size=eD.size:=by obtain⟨h,hi⟩:=hi;rw[hi.sz,iU]
  refine hQ a w l hi fun i hlt=>?_
  have:=Mj hsz (fun i o ho e he=>?_) hr i (by rw[iU];exact hlt)
  ·unfold on;rw[Array.getD_eq_getD_getElem?,Array.getElem?_eq_getElem (by rw[hsz,iU];exact hlt)] at this ⊢;exact this
  ·have hl:=(Ai.1 ho).1;rw[iU] at hl;have h1:=List.all_eq_true.1 Yo i (List.mem_range.2 hl);rw[ho] at h1;simp only[Option.map_some,Option.getD_some,Array.all_eq_true,decide_eq_true_eq] at h1;obtain⟨k,hk,rfl⟩:=Array.getElem_of_mem he;exact h1 k hk
 ·rw[iU];unfold jC;refine Nat.le_trans List.countP_le_length ?_;rw[List.length_range,iU];exact Nl _
 ·rw[hrep];exact H
end
end Go.Proofs.YtejkibnaidiklaaGreatDoor
