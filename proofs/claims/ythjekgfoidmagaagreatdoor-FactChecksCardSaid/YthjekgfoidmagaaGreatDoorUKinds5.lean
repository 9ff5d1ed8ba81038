/- Kinds4 Kinds5 -/
import Derived.Test.YthjekgfoidmagaaGreatDoorUReg
set_option maxHeartbeats 16000000
set_option maxRecDepth 100000
namespace Go.Proofs.YthjekgfoidmagaaGreatDoor
open Tryz
section
open Go Go.RowKit Go.Maps Go.MapKept Go.WideElems
noncomputable def eD:Array Oper:=(f34.body.bind (Kf 6)).getD #[]
theorem Oh:∀i,i<124->(match dK[i]? with|some (_,Df.ins j _)=>(bWt.any fun p=>p.1.1==j&&p.2==i)|some (_,Df.oins _)=>(tR.any fun p=>p.2==i)|_=>true)=true:=by decide +kernel
noncomputable def aZv(i d:Nat):Bool:=((eD[i]?).map fun o=>o.after.any fun e=>e.on==d&&Region.binds .any e).getD false
theorem aZs{l:Array Bool}{i d:Nat}(hr:i∈Region.ready .any eD l)(h:aZv i d=true):on l d:=by
 refine aG hr ?_;unfold aZv at h;cases e:(eD[i]?).map fun o=>o.after.any fun e=>e.on==d&&Region.binds .any e with
 |none=>rw[e] at h;cases h
 |some x=>rw[e] at h;exact congrArg some h
theorem mA{i x j:Nat}(hL:(bWt.all fun p=>!(p.1.1==j) || aZv x p.2)=true){s:Nat}{n:Int}(h:dK[i]?=some (s,.ins j n)):aZv x i=true:=by
 have hl:=(Li.1 h).1;have h1:=Oh i (oK ▸ hl);rw[h] at h1;obtain⟨p,hp,e⟩:=List.any_eq_true.1 h1;have h2:=List.all_eq_true.1 hL p hp;simp only[Bool.and_eq_true,beq_iff_eq] at e;rw[e.1,e.2] at h2;simpa using h2
theorem Tx{i x:Nat}(hL:(tR.all fun p=>aZv x p.2)=true){s:Nat}{n:Int}(h:dK[i]?=some (s,.oins n)):aZv x i=true:=by
 have hl:=(Li.1 h).1;have h1:=Oh i (oK ▸ hl);rw[h] at h1;obtain⟨p,hp,e⟩:=List.any_eq_true.1 h1;have h2:=List.all_eq_true.1 hL p hp;simp only[beq_iff_eq] at e;rw[e] at h2;exact h2
theorem aDh:(bWt.all fun p=>match dK[p.2]? with|some (_,Df.ins j n)=>j==p.1.1&&n==p.1.2|_=>false)=true:=by decide +kernel
theorem jI{j:Nat}(hj:((jH j).all fun q=>bWt.any fun p=>p.1.1==j&&p.1.2==q.1)=true):∀q,q∈jH j->∃(i s':Nat),dK[i]?=some (s',Df.ins j q.1):=by
 intro q hq;obtain⟨p,hp,e⟩:=List.any_eq_true.1 (List.all_eq_true.1 hj q hq);have h2:=List.all_eq_true.1 aDh p hp;simp only[Bool.and_eq_true,beq_iff_eq] at e;split at h2
 ·rename_i s j' n hx;simp only[Bool.and_eq_true,beq_iff_eq] at h2;refine⟨p.2,s,?_⟩;rw[hx,h2.1,h2.2,e.1,e.2]
 ·cases h2
section
variable {w0 w:World}{b1 b3 bt:Nat}{VP VL:Value}{h:bD}{l:Array Bool}{a:Act}{Q:Exit->Act->World->Prop}
set_option maxRecDepth 100000
def KT(i:Nat):Prop:=∀ {w0 w:World}{b1 b3 bt:Nat}{VP VL:Value}{h:bD}{l:Array Bool}{a:Act}{Q:Exit->Act->World->Prop},KI w0 b1 b3 bt VP VL h l a w->i∈Region.ready .any eD l->wpOp prog eD Q i (KN w0 b1 b3 bt VP VL (l.setIfInBounds i true)) a w
theorem kt{i:Nat}(op:Op)(d:Option Tmp)(e:((eD[i]?).map fun o=>(o.op,o.dst,o.guard))=some (op,d,none))
  (f:∀ {w0 w:World}{b1 b3 bt:Nat}{VP VL:Value}{h:bD}{l:Array Bool}{a:Act}{Q:Exit->Act->World->Prop}{o:Oper},KI w0 b1 b3 bt VP VL h l a w->i∈Region.ready .any eD l->l.getD i true=false->o.op=op->o.dst=d->o.wp prog a w (KN w0 b1 b3 bt VP VL (l.setIfInBounds i true)) Q):KT i:=by
 intro w0 w b1 b3 bt VP VL h l a Q H hr;obtain⟨hu,o,ho,_⟩:=mem_ready.1 hr;rw[ho] at e;injection e with e
 injection e with e1 e2
 injection e2 with e2 e3
 exact bU ho e3 (f H hr hu e1 e2)
def kS(i:Nat):Nat:=((dK[i]?).map Prod.fst).getD 0
def kW(i:Nat):bH:=match dK[i]? with|some (_,.kind k)=>k|_=>⟨[],0,[],[],false⟩
abbrev KO(i:Nat)(x:Op)(d:Option Tmp):Prop:=((eD[i]?).map fun o=>(o.op,o.dst,o.guard))=some (x,d,none)
abbrev KC(i:Nat)(c:Df):Prop:=dK[i]?=some (kS i,c)
theorem kq{i:Nat}{c:Df}{x:Op}(f:∀ {w0 w:World}{b1 b3 bt:Nat}{VP VL:Value}{h:bD}{l:Array Bool}{a:Act}{s:Nat}{Q:Exit->Act->World->Prop}{o:Oper},KI w0 b1 b3 bt VP VL h l a w->dK[i]?=some (s,c)->l.getD i true=false->s<105->o.op=x->o.dst=some s->o.wp prog a w (KN w0 b1 b3 bt VP VL (l.setIfInBounds i true)) Q)
  (e:KO i x (some (kS i)):=by show _=_;kernel_rfl) (ht:KC i c:=by show _=_;kernel_rfl) (hs:kS i<105:=by decide +kernel):KT i:=kt x _ e fun H _ hu hop hd=>f H ht hu hs hop hd
theorem kmk{i:Nat}(j:Nat)(e:KO i (.makeMap 60 none) (some (kS i)):=by show _=_;kernel_rfl)(ht:KC i (.mk j):=by show _=_;kernel_rfl)(hs:kS i<105:=by decide +kernel):KT i :=
 kt _ _ e fun H _ hu hop hd=>fZ hop (by rw[hd];exact⟨_,H.make ht hu hs⟩)
theorem kom:KT 0:=kt (.makeMap 64 none) (some 15) (by kernel_rfl) fun H _ hu hop hd=>fZ hop (by rw[hd];exact⟨_,H.omake (s:=15) (by kernel_rfl) hu (by decide)⟩)
theorem kro{i:Nat}(r:List Int)(ps:Array (Nat×Operand))(e:KO i (.buildSlice 93 r.length ps) (some (kS i)):=by show _=_;kernel_rfl)(ht:KC i (.row r):=by show _=_;kernel_rfl)(hs:kS i<105:=by decide +kernel)
  (hrun:∀(a:Act) (W:World),(Instr.buildSlice 93 r.length (ps.map fun (i,x)=>(i,a.eval x))).run prog W=.ok (.slice (some ⟨W.heap.size,0,none⟩) r.length r.length) (W.alloc (.cells (r.map (Value.int .i64)).toArray 3)):=by intro a W;simp[Act.eval,go_sem]):KT i :=
 kt _ _ e fun H _ hu hop hd=>H.rowed ht hu hs hop hd (hrun _)
theorem kam{i:Nat}(d:Nat)(e:KO i (.call { callee:=.value (.tmp (kS d)),args:=#[.const (.string ⟨(kW i).word.toArray⟩)],argTypes:=#[9] }) (some (kS i)):=by show _=_;kernel_rfl)(ht:KC i (.kind ⟨(kW i).word,2,[(5,true,false)],[2],false⟩):=by show _=_;kernel_rfl)
  (hf:KC d .fAmt:=by show _=_;kernel_rfl) (hd:aZv i d=true:=by kernel_rfl) (hs:kS i<105:=by decide +kernel):KT i:=kt _ _ e fun H hr hu hop hd'=>H.amount ht hu hs hop hd' (H.facts d _ _ hf (aZs hr hd))
theorem kin{i:Nat}(j:Nat)(n:Int)(p q:Bool)(im d:Nat)(e:KO i (.insert 60 (.tmp (kS im)) (.const (.int .i64 n)) (.tmp (kS d))) none:=by show _=_;kernel_rfl)(ht:KC i (.ins j n):=by show _=_;kernel_rfl)(hm:KC im (.mk j):=by show _=_;kernel_rfl)(hi:aZv i im=true:=by kernel_rfl)
  (hf:KC d (.lim p q):=by show _=_;kernel_rfl) (hd:aZv i d=true:=by kernel_rfl) (hq:(n,p,q)∈jH j:=by decide +kernel) (hs:105<=kS i:=by decide +kernel) (hl:i<124:=by decide):KT i :=
 kt _ _ e fun H hr hu hop hd'=>H.insert (pq:=(p,q)) ht hu hs hop hd' hm (aZs hr hi) (H.facts d _ _ hf (aZs hr hd)) hq (by rw[H.sz];exact hl)
theorem kon{i:Nat}(n:Int)(d x:Nat)(e:KO i (.insert 64 (.tmp 15) (.const (.int .i64 n)) (.tmp (kS d))) none:=by show _=_;kernel_rfl)(ht:KC i (.oins n):=by show _=_;kernel_rfl)(hm:dK[0]?=some (15,.omk):=by kernel_rfl)(hi:aZv i 0=true:=by kernel_rfl)
  (hf:KC d (.kind (kW d)):=by show _=_;kernel_rfl) (hd:aZv i d=true:=by kernel_rfl) (hq:aX[x]?=some (n,kW d):=by kernel_rfl) (hs:105<=kS i:=by decide +kernel) (hl:i<124:=by decide):KT i :=
 kt _ _ e fun H hr hu hop hd'=>H.oinsert (k:=kW d) ht hu hs hop hd' hm (aZs hr hi) (H.facts d _ _ hf (aZs hr hd)) (List.mem_of_getElem? hq) (by rw[H.sz];exact hl)
theorem kof{i:Nat}(m j d1 d2 d3:Nat)(e:KO i (.call { callee:=.value (.tmp (kS d1)),args:=#[.const (.string ⟨(kW i).word.toArray⟩),.const (.int .i64 (kW i).cls),.tmp (kS d2),.tmp (kS d3)],argTypes:=#[9,3,60,93] }) (some (kS i)):=by show _=_;kernel_rfl)
  (ht:KC i (.kind ⟨(kW i).word,(kW i).cls,jH j,(kW i).more,false⟩):=by show _=_;kernel_rfl) (h1:KC d1 .fOf:=by show _=_;kernel_rfl) (g1:aZv i d1=true:=by kernel_rfl) (h2:KC d2 (.same m j):=by show _=_;kernel_rfl) (g2:aZv i d2=true:=by kernel_rfl) (h3:KC d3 (.row (kW i).more):=by show _=_;kernel_rfl) (g3:aZv i d3=true:=by kernel_rfl)
  (hj:((jH j).all fun q=>bWt.any fun p=>p.1.1==j&&p.1.2==q.1)=true:=by decide +kernel) (hl:(kW i).more.length<=100:=by decide +kernel) (ho:∀x∈(kW i).more,0<=x/\x<13:=by decide +kernel) (hs:kS i<105:=by decide +kernel):KT i :=
 kt _ _ e fun H hr hu hop hd=>H.of ht hu hs hop hd (H.facts d1 _ _ h1 (aZs hr g1)) (H.facts d2 _ _ h2 (aZs hr g2)) (H.facts d3 _ _ h3 (aZs hr g3)) (jI hj) hl ho
theorem Rt{i:Nat}(d1 d2 d3:Nat)(e:KO i (.call { callee:=.value (.tmp (kS d1)),args:=#[.const (.string ⟨(kW i).word.toArray⟩),.const (.int .i64 (kW i).cls),.tmp (kS d2),.tmp (kS d3)],argTypes:=#[9,3,60,93] }) (some (kS i)):=by show _=_;kernel_rfl)
  (ht:KC i (.kind ⟨(kW i).word,(kW i).cls,[(4,true,false),(5,false,false),(6,false,false)],(kW i).more,false⟩):=by show _=_;kernel_rfl) (h1:KC d1 .fOf:=by show _=_;kernel_rfl) (g1:aZv i d1=true:=by kernel_rfl) (h2:KC d2 .trade:=by show _=_;kernel_rfl) (g2:aZv i d2=true:=by kernel_rfl) (h3:KC d3 (.row (kW i).more):=by show _=_;kernel_rfl) (g3:aZv i d3=true:=by kernel_rfl)
  (hl:(kW i).more.length<=100:=by decide +kernel) (ho:∀x∈(kW i).more,0<=x/\x<13:=by decide +kernel) (hs:kS i<105:=by decide +kernel):KT i :=
 kt _ _ e fun H hr hu hop hd=>H.of_trade ht hu hs hop hd (H.facts d1 _ _ h1 (aZs hr g1)) (H.facts d2 _ _ h2 (aZs hr g2)) (H.facts d3 _ _ h3 (aZs hr g3)) hl ho
theorem koz{i:Nat}(d1 d3:Nat)(e:KO i (.call { callee:=.value (.tmp (kS d1)),args:=#[.const (.string ⟨(kW i).word.toArray⟩),.const (.int .i64 (kW i).cls),.const (.map none),.tmp (kS d3)],argTypes:=#[9,3,60,93] }) (some (kS i)):=by show _=_;kernel_rfl)
  (ht:KC i (.kind ⟨(kW i).word,(kW i).cls,[],(kW i).more,false⟩):=by show _=_;kernel_rfl) (h1:KC d1 .fOf:=by show _=_;kernel_rfl) (g1:aZv i d1=true:=by kernel_rfl) (h3:KC d3 (.row (kW i).more):=by show _=_;kernel_rfl) (g3:aZv i d3=true:=by kernel_rfl)
  (hl:(kW i).more.length<=100:=by decide +kernel) (ho:∀x∈(kW i).more,0<=x/\x<13:=by decide +kernel) (hs:kS i<105:=by decide +kernel):KT i :=
 kt _ _ e fun H hr hu hop hd=>H.of_nil ht hu hs hop hd (H.facts d1 _ _ h1 (aZs hr g1)) (H.facts d3 _ _ h3 (aZs hr g3)) hl ho
theorem kco{i:Nat}(d1 d2:Nat)(e:KO i (.call { callee:=.value (.tmp (kS d1)),args:=#[.tmp (kS d2)],argTypes:=#[62] }) (some (kS i)):=by show _=_;kernel_rfl)(ht:KC i (.kind ⟨(kW i).word,(kW i).cls,(kW i).nums,(kW i).more,true⟩):=by show _=_;kernel_rfl)
  (h1:KC d1 .fWc:=by show _=_;kernel_rfl) (g1:aZv i d1=true:=by kernel_rfl) (h2:KC d2 (.kind ⟨(kW i).word,(kW i).cls,(kW i).nums,(kW i).more,false⟩):=by show _=_;kernel_rfl) (g2:aZv i d2=true:=by kernel_rfl) (hs:kS i<105:=by decide +kernel):KT i :=
 kt _ _ e fun H hr hu hop hd=>H.code ht hu hs hop hd (H.facts d1 _ _ h1 (aZs hr g1)) (H.facts d2 _ _ h2 (aZs hr g2))
theorem ksm{i:Nat}(j im:Nat)(e:KO i (.move (.tmp (kS im))) (some (kS i)):=by show _=_;kernel_rfl)(ht:KC i (.same (kS im) j):=by show _=_;kernel_rfl)(hn:kS im≠kS i:=by decide +kernel)(hm:KC im (.mk j):=by show _=_;kernel_rfl)(g:aZv i im=true:=by kernel_rfl)
  (hL:(bWt.all fun p=>!(p.1.1==j) || aZv i p.2)=true:=by kernel_rfl) (hs:kS i<105:=by decide +kernel):KT i :=
 kt _ _ e fun H hr hu hop hd=>H.same ht hu hs hop hd hn hm (aZs hr g) fun _ _ _ hx=>aZs hr (mA hL hx)
theorem kos:KT 122:=kt (.move (.tmp 15)) (some 104) (by kernel_rfl) fun H hr hu hop hd=>H.osame (s:=104) (im:=0) (by kernel_rfl) hu (by decide) hop hd (by decide) (by kernel_rfl) (aZs hr (by kernel_rfl)) fun _ _ _ hx=>aZs hr (Tx (by kernel_rfl) hx)
theorem koe:KT 123:=kt (.assign (.tmp 104)) (some 0) (by kernel_rfl) fun H hr hu hop hd=>H.oend (s:=0) (m:=15) (m2:=104) (by kernel_rfl) hu (by decide) hop hd (by decide) (H.facts 122 104 (.osame 15) (by kernel_rfl) (aZs hr (by kernel_rfl)))
theorem bCm:∀i,i<124->KT i
 |0,_=>kom
 |1,_=>kq KI.mv_amt
 |2,_=>kam 1
 |3,_=>kon 1 2 0
 |4,_=>kq KI.mv_amt
 |5,_=>kam 4
 |6,_=>kon 2 5 1
 |7,_=>kq KI.ld_of
 |8,_=>kq KI.mv_trade
 |9,_=>kro [0] #[(0,.const (.int .i64 0))]
 |10,_=>Rt 7 8 9
 |11,_=>kon 3 10 2
 |12,_=>kq KI.ld_of
 |13,_=>kq KI.mv_trade
 |14,_=>kro [0,10] #[(0,.const (.int .i64 0)),(1,.const (.int .i64 10))]
 |15,_=>Rt 12 13 14
 |16,_=>kon 4 15 3
 |17,_=>kq KI.ld_of
 |18,_=>kmk 0
 |19,_=>kq KI.ld_pos
 |20,_=>kin 0 7 true false 18 19
 |21,_=>ksm 0 18
 |22,_=>kro [0] #[(0,.const (.int .i64 0))]
 |23,_=>kof 29 0 17 21 22
 |24,_=>kon 5 23 4
 |25,_=>kq KI.mv_amt
 |26,_=>kam 25
 |27,_=>kon 6 26 5
 |28,_=>kq KI.mv_wc
 |29,_=>kq KI.ld_of
 |30,_=>kmk 1
 |31,_=>kq KI.ld_pos
 |32,_=>kin 1 4 true false 30 31
 |33,_=>kq KI.ld_pos
 |34,_=>kin 1 5 true false 30 33
 |35,_=>ksm 1 30
 |36,_=>kro [1,2] #[(0,.const (.int .i64 1)),(1,.const (.int .i64 2))]
 |37,_=>kof 38 1 29 35 36
 |38,_=>kco 28 37
 |39,_=>kon 7 38 6
 |40,_=>kq KI.ld_of
 |41,_=>kmk 2
 |42,_=>kq KI.mv_least
 |43,_=>kin 2 7 false false 41 42
 |44,_=>kq KI.ld_pos
 |45,_=>kin 2 8 true false 41 44
 |46,_=>ksm 2 41
 |47,_=>kro [0] #[(0,.const (.int .i64 0))]
 |48,_=>kof 46 2 40 46 47
 |49,_=>kon 8 48 7
 |50,_=>kq KI.ld_of
 |51,_=>kmk 3
 |52,_=>kq KI.mv_least
 |53,_=>kin 3 7 false false 51 52
 |54,_=>kq KI.ld_pos
 |55,_=>kin 3 8 true false 51 54
 |56,_=>kq (KI.lim3 (ts:=#[4,4]))
 |57,_=>kin 3 9 false true 51 56
 |58,_=>ksm 3 51
 |59,_=>kro [0,1] #[(0,.const (.int .i64 0)),(1,.const (.int .i64 1))]
 |60,_=>kof 53 3 50 58 59
 |61,_=>kon 9 60 8
 |62,_=>kq KI.ld_of
 |63,_=>kro [0,11] #[(0,.const (.int .i64 0)),(1,.const (.int .i64 11))]
 |64,_=>koz 62 63
 |65,_=>kon 10 64 9
 |66,_=>kq KI.ld_of
 |67,_=>kro [0,3,12] #[(0,.const (.int .i64 0)),(1,.const (.int .i64 3)),(2,.const (.int .i64 12))]
 |68,_=>koz 66 67
 |69,_=>kon 11 68 10
 |70,_=>kq KI.ld_of
 |71,_=>kmk 4
 |72,_=>kq KI.ld_pos
 |73,_=>kin 4 4 true false 71 72
 |74,_=>kq KI.mv_least
 |75,_=>kin 4 7 false false 71 74
 |76,_=>kq KI.ld_pos
 |77,_=>kin 4 8 true false 71 76
 |78,_=>ksm 4 71
 |79,_=>kro [0,1] #[(0,.const (.int .i64 0)),(1,.const (.int .i64 1))]
 |80,_=>kof 67 4 70 78 79
 |81,_=>kon 12 80 11
 |82,_=>kq KI.ld_of
 |83,_=>kmk 5
 |84,_=>kq KI.ld_pos
 |85,_=>kin 5 7 true false 83 84
 |86,_=>ksm 5 83
 |87,_=>kro [0] #[(0,.const (.int .i64 0))]
 |88,_=>kof 75 5 82 86 87
 |89,_=>kon 13 88 12
 |90,_=>kq KI.ld_of
 |91,_=>kmk 6
 |92,_=>kq KI.mv_least
 |93,_=>kin 6 7 false false 91 92
 |94,_=>ksm 6 91
 |95,_=>kro [0] #[(0,.const (.int .i64 0))]
 |96,_=>kof 81 6 90 94 95
 |97,_=>kon 14 96 13
 |98,_=>kq KI.ld_of
 |99,_=>kmk 7
 |100,_=>kq KI.mv_least
 |101,_=>kin 7 7 false false 99 100
 |102,_=>ksm 7 99
 |103,_=>kro [0] #[(0,.const (.int .i64 0))]
 |104,_=>kof 87 7 98 102 103
 |105,_=>kon 15 104 14
 |106,_=>kq KI.mv_wc
 |107,_=>kq KI.ld_of
 |108,_=>kmk 8
 |109,_=>kq KI.ld_pos
 |110,_=>kin 8 8 true false 108 109
 |111,_=>ksm 8 108
 |112,_=>kro [1,2] #[(0,.const (.int .i64 1)),(1,.const (.int .i64 2))]
 |113,_=>kof 94 8 107 111 112
 |114,_=>kco 106 113
 |115,_=>kon 16 114 15
 |116,_=>kq KI.mv_amt
 |117,_=>kam 116
 |118,_=>kon 17 117 16
 |119,_=>kq KI.mv_amt
 |120,_=>kam 119
 |121,_=>kon 18 120 17
 |122,_=>kos
 |123,_=>koe
 |n+124,hi=>absurd hi (by omega)
theorem iU:eD.size=124:=by kernel_rfl
theorem Yo:((List.range 124).all fun i=>((eD[i]?).map fun o=>o.after.all fun e=>decide (e.on<i)).getD true)=true:=by kernel_rfl
theorem Lc{i:Nat}(H:KN w0 b1 b3 bt VP VL l a w)(hr:i∈Region.ready .any eD l):wpOp prog eD Q i (KN w0 b1 b3 bt VP VL (l.setIfInBounds i true)) a w:=by
 obtain⟨h,H⟩:=H;have hi:i<124:=by
  obtain⟨_,o,ho,_⟩:=mem_ready.1 hr;have:=(Ai.1 ho).1;rw[iU] at this;exact this
 exact bCm i hi H hr
theorem Eb(H:KN w0 b1 b3 bt VP VL (Array.replicate 124 false) a (w.drewN 1))(hQ:∀a w l,KN w0 b1 b3 bt VP VL l a w->(∀i,i<124->on l i)->Q .normal a w):(Code.region 6 eD true).wp prog Q a w:=by
 refine wp_region_any (by kernel_rfl) ?_;have hrep:Array.replicate eD.size false=Array.replicate 124 false:=by rw[iU]
 refine uQ (KN w0 b1 b3 bt VP VL) (fun l a w hi hr=>?_) (fun l a w i hi hr=>Lc hi hr) _ _ _ _ ?_ ?_
 ·have hsz:l.size=eD.size:=by obtain⟨h,hi⟩:=hi;rw[hi.sz,iU]
  refine hQ a w l hi fun i hlt=>?_
  have:=Mj hsz (fun i o ho e he=>?_) hr i (by rw[iU];exact hlt)
  ·unfold on;rw[Array.getD_eq_getD_getElem?,Array.getElem?_eq_getElem (by rw[hsz,iU];exact hlt)] at this ⊢;exact this
  ·have hl:=(Ai.1 ho).1;rw[iU] at hl;have h1:=List.all_eq_true.1 Yo i (List.mem_range.2 hl);rw[ho] at h1;simp only[Option.map_some,Option.getD_some,Array.all_eq_true,decide_eq_true_eq] at h1;obtain⟨k,hk,rfl⟩:=Array.getElem_of_mem he;exact h1 k hk
 ·rw[iU];unfold jC;refine Nat.le_trans List.countP_le_length ?_;rw[List.length_range,iU];exact Nl _
 ·rw[hrep];exact H
end
end
section
open Go Go.RowKit Go.Maps Go.MapKept Go.WideElems
def nU(w:World)(v:Value)(pq:Bool×Bool):Prop:=∃bp bq,v=.func (.func 139) #[] #[.pointer (some ⟨bp,0,none⟩),.pointer (some ⟨bq,0,none⟩)]/\aP w bp #[.bool pq.1] 4/\aP w bq #[.bool pq.2] 4
def oG(w:World)(v:Value)(k:bH):Prop:=∃mv,v=.agg (aK k.word k.cls k.has (.map mv) k.code)/\((mv=none/\k.nums=[])∨∃b kvs,mv=some b/\eL w b kvs/\rY (nU w) k.nums kvs/\∀q,q∈k.nums->∃p,p∈kvs/\p.1=q.1)
def pQ(w:World)(b:Nat):Prop:=∃kvs,mD w b kvs/\(∀p,p∈kvs->∃q,q∈aX/\p.1=q.1/\oG w p.2 q.2)/\∀q,q∈aX->∃p,p∈kvs/\p.1=q.1
theorem nU.below{w w':World}{v:Value}{pq:Bool×Bool}(h:nU w v pq)(hb:Below w.heap.size w w'):nU w' v pq:=by
 obtain⟨bp,bq,e,h1,h2⟩:=h;exact⟨bp,bq,e,h1.below hb,h2.below hb⟩
theorem oG.below{w w':World}{v:Value}{k:bH}(h:oG w v k)(hb:Below w.heap.size w w'):oG w' v k:=by
 obtain⟨mv,e,h⟩:=h;refine⟨mv,e,h.imp id ?_⟩;rintro⟨b,kvs,e,h1,h2,h3⟩;exact⟨b,kvs,e,h1.below hb,h2.mono fun v pq h=>h.below hb,h3⟩
theorem pQ.below{w w':World}{b:Nat}(h:pQ w b)(hb:Below w.heap.size w w'):pQ w' b:=by
 obtain⟨kvs,h1,h2,h3⟩:=h;refine⟨kvs,h1.below hb,fun p hp=>?_,h3⟩;obtain⟨q,hq,e,hk⟩:=h2 p hp;exact⟨q,hq,e,hk.below hb⟩
theorem lV.at{w:World}{h:bD}(ht:iF w h){v:Value}{pq:Bool×Bool}(H:lV h v pq):nU w v pq:=by
 obtain⟨bp,bq,e,h1,h2⟩:=H;exact⟨bp,bq,e,ht _ _ h1,ht _ _ h2⟩
theorem qX.at{w:World}{h:bD}(ht:iF w h){v:Value}{k:bH}(H:qX h v k):oG w v k:=by
 obtain⟨mv,e,H⟩:=H;refine⟨mv,e,H.imp id ?_⟩;rintro⟨b,e,hb⟩;obtain⟨kvs,g1,g2,g3⟩:=ht _ _ hb;exact⟨b,kvs,e,g1.1,g2.mono fun v pq h=>h.at ht,g3⟩
theorem KI.end{w0 w:World}{b1 b3 bt:Nat}{VP VL:Value}{l:Array Bool}{a:Act}(H:KN w0 b1 b3 bt VP VL l a w)(hall:∀i,i<124->on l i):∃bm,a.tmps[0]?=some (.map (some bm))/\pQ w bm/\Below w0.heap.size w0 w/\a.defers=[]:=by
 obtain⟨h,H⟩:=H;obtain⟨⟨v,k1,k2⟩,_,_⟩:=H.facts 123 0 (.osame 15) (by kernel_rfl) (hall 123 (by decide));obtain⟨b,ks,g1,g2,g3⟩:=H.outs 0 15 (by kernel_rfl) (hall 0 (by decide));obtain rfl:v=.map (some b):=Option.some.inj (k2.symm.trans g1);obtain⟨kvs,m1,m2,m3⟩:=H.ty _ _ g2;refine⟨b,k1,⟨kvs,m1,fun p hp=>?_,fun q hq=>?_⟩,H.hb,H.df⟩
 ·obtain⟨q,hq,e,hk⟩:=m2 p hp;exact⟨q,hq,e,hk.at H.ty⟩
 ·have hin:∃(i s:Nat),dK[i]?=some (s,Df.oins q.1):=by
   have h1:(aX.all fun q=>(List.range 124).any fun i=>match dK[i]? with|some (_,Df.oins n)=>n==q.1|_=>false)=true:=by decide +kernel
   obtain⟨i,_,hi⟩:=List.any_eq_true.1 (List.all_eq_true.1 h1 q hq);split at hi
   ·rename_i s n hx;exact⟨i,s,by rw[hx];simp at hi;rw[hi]⟩
   ·cases hi
  obtain⟨i,s,hi⟩:=hin;have hlt:=(Li.1 hi).1;have:=(g3 i s q.1 hi).1 (hall i (oK ▸ hlt));rw[<-m3.1] at this;obtain⟨p,hp,e⟩:=List.mem_map.1 this;exact⟨p,hp,e⟩
theorem Is(p q:Bool)(w:World):
  Calls prog 86 #[.bool p,.bool q] w fun e w'=>e=.returned (.func (.func 139) #[] #[.pointer (some ⟨w.heap.size,0,none⟩),.pointer (some ⟨w.heap.size+1,0,none⟩)])/\aP w' w.heap.size #[.bool p] 4/\aP w' (w.heap.size+1) #[.bool q] 4/\w'.heap.size=w.heap.size+2/\Below w.heap.size w w':=by
 refine(uH p q w).mono ?_;rintro e w' ⟨rfl,rfl⟩;refine⟨rfl,(aP.new0 w _ _).below (aB _ _),?_,by simp,((Br _ _).alloc (Nl _) _).alloc (by simp) _⟩;have h:=aP.new0 (w.alloc (.cells #[.bool p] 4)) #[.bool q] 4;rw[World.size_alloc] at h;exact h
theorem Cq(w:World):
  Calls prog 34 #[] w fun e w'=>∃bm,e=.returned (.map (some bm))/\pQ w' bm/\Below w.heap.size w w':=by
 have hmm:=@run_makeMap prog;go_enter func34,ntmps34;go_wp2_with fail;refine(Is true false _).mono ?_;rintro e w1 ⟨rfl,P1,Q1,hs1,hb1⟩;have P1:=Hd P1;have Q1:=Hd Q1;have hb1:=Hd hb1;have HS1:=Hd hs1;clear hs1;go_wp2_with fail;refine(Is false false _).mono ?_;rintro e w2 ⟨rfl,P2,Q2,hs2,hb2⟩;rw[HS1.out] at hs2 P2 Q2;simp only[HS1.out];have P1:=Hd (P1.out.below hb2);have Q1:=Hd (Q1.out.below hb2);have P2:=Hd P2;have Q2:=Hd Q2;have HB2:=Hd (aA hb1.out hb2);have HS2:=Hd hs2;clear hb1 hb2 hs2 HS1;have HR:=mD.new ((w2.alloc (.cells #[(.func (.func 139) #[] #[.pointer (some ⟨w.heap.size,0,none⟩),.pointer (some ⟨w.heap.size+1,0,none⟩)])] 112)).alloc (.cells #[Ae] 114));have B1:=(aP.new0 w2 #[(.func (.func 139) #[] #[.pointer (some ⟨w.heap.size,0,none⟩),.pointer (some ⟨w.heap.size+1,0,none⟩)])] 112).below (aB _ (.cells #[Ae] 114));have B3:=aP.new0 (w2.alloc (.cells #[(.func (.func 139) #[] #[.pointer (some ⟨w.heap.size,0,none⟩),.pointer (some ⟨w.heap.size+1,0,none⟩)])] 112)) #[Ae] 114;have HD:=((Br w2.heap.size w2).alloc (Nl _) (.cells #[(.func (.func 139) #[] #[.pointer (some ⟨w.heap.size,0,none⟩),.pointer (some ⟨w.heap.size+1,0,none⟩)])] 112)).alloc (by simp) (.cells #[Ae] 114);simp only[World.size_alloc] at HR B1 B3;have HR:=Hd HR;have B1:=Hd (B1.below (aB _ (.map #[] 0)));have B3:=Hd (B3.below (aB _ (.map #[] 0)));have HD:=Hd (HD.alloc (by simp;omega) (.map #[] 0));have c1:=B1.out.cell 0;go_wp2_with (first|(refine lB rfl _ rfl _ _ _ 60 112 rfl underlying60 (w2.heap.size+1+1) [] rfl HR.out (by simp) 4 rfl ⟨by decide,by decide⟩ (by simp) ?_;intro x1 hR1 hg1 hs1;have HR:=Hd hR1;have B1:=Hd (B1.out.kept hg1 (by omega));have B3:=Hd (B3.out.kept hg1 (by omega));have HD:=Hd (HD.out.grown hg1 HD.out.size (fun k e=>by cases e;omega));clear hR1 hg1 hs1 ; clear c1)|(refine lB rfl _ rfl _ _ _ 60 112 rfl underlying60 (w2.heap.size+1+1) [(4,(.func (.func 139) #[] #[.pointer (some ⟨w.heap.size,0,none⟩),.pointer (some ⟨w.heap.size+1,0,none⟩)]))] rfl HR.out (by simp) 5 rfl ⟨by decide,by decide⟩ (by simp) ?_;intro x2 hR1 hg1 hs1;have HR:=Hd hR1;have B1:=Hd (B1.out.kept hg1 (by omega));have B3:=Hd (B3.out.kept hg1 (by omega));have HD:=Hd (HD.out.grown hg1 HD.out.size (fun k e=>by cases e;omega));clear hR1 hg1 hs1)|(refine lB rfl _ rfl _ _ _ 60 112 rfl underlying60 (w2.heap.size+1+1) [(4,(.func (.func 139) #[] #[.pointer (some ⟨w.heap.size,0,none⟩),.pointer (some ⟨w.heap.size+1,0,none⟩)])),(5,(.func (.func 139) #[] #[.pointer (some ⟨w.heap.size+2,0,none⟩),.pointer (some ⟨w.heap.size+2+1,0,none⟩)]))] rfl HR.out (by simp) 6 rfl ⟨by decide,by decide⟩ (by simp) ?_;intro x3 hR1 hg1 hs1;have HR:=Hd hR1;have B1:=Hd (B1.out.kept hg1 (by omega));have B3:=Hd (B3.out.kept hg1 (by omega));have HD:=Hd (HD.out.grown hg1 HD.out.size (fun k e=>by cases e;omega));clear hR1 hg1 hs1));have P1:=Hd (P1.out.below HD.out);have Q1:=Hd (Q1.out.below HD.out);have P2:=Hd (P2.out.below HD.out);have Q2:=Hd (Q2.out.below HD.out);have hle:=HS2.out;have hsz:=HD.out.size;obtain⟨G,hG⟩:∃G:bD,G=(fun b=>if b=w2.heap.size then some (.val (.func (.func 139) #[] #[.pointer (some ⟨w.heap.size,0,none⟩),.pointer (some ⟨w.heap.size+1,0,none⟩)]) 112) else if b=w2.heap.size+1 then some (.val Ae 114) else if b=w2.heap.size+1+1 then some (.done [(4,true,false),(5,false,false),(6,false,false)]) else if b=w.heap.size then some (.val (.bool true) 4) else if b=w.heap.size+1 then some (.val (.bool false) 4) else if b=w.heap.size+2 then some (.val (.bool false) 4) else if b=w.heap.size+2+1 then some (.val (.bool false) 4) else none):=⟨_,rfl⟩
 have e1:G (w2.heap.size)=some (.val (.func (.func 139) #[] #[.pointer (some ⟨w.heap.size,0,none⟩),.pointer (some ⟨w.heap.size+1,0,none⟩)]) 112):=by rw[hG];dsimp only;rw[if_pos rfl]
 have e2:G (w2.heap.size+1)=some (.val Ae 114):=by rw[hG];dsimp only;rw[if_neg (by omega),if_pos rfl]
 have e3:G (w2.heap.size+1+1)=some (.done [(4,true,false),(5,false,false),(6,false,false)]):=by rw[hG];dsimp only;rw[if_neg (by omega),if_neg (by omega),if_pos rfl]
 have e4:G (w.heap.size)=some (.val (.bool true) 4):=by rw[hG];dsimp only;rw[if_neg (by omega),if_neg (by omega),if_neg (by omega),if_pos rfl]
 have e5:G (w.heap.size+1)=some (.val (.bool false) 4):=by rw[hG];dsimp only;rw[if_neg (by omega),if_neg (by omega),if_neg (by omega),if_neg (by omega),if_pos rfl]
 have e6:G (w.heap.size+2)=some (.val (.bool false) 4):=by rw[hG];dsimp only;rw[if_neg (by omega),if_neg (by omega),if_neg (by omega),if_neg (by omega),if_neg (by omega),if_pos rfl]
 have e7:G (w.heap.size+2+1)=some (.val (.bool false) 4):=by rw[hG];dsimp only;rw[if_neg (by omega),if_neg (by omega),if_neg (by omega),if_neg (by omega),if_neg (by omega),if_neg (by omega),if_pos rfl]
 have LP:lV G (.func (.func 139) #[] #[.pointer (some ⟨w.heap.size,0,none⟩),.pointer (some ⟨w.heap.size+1,0,none⟩)]) (true,false):=⟨_,_,rfl,e4,e5⟩
 have LL:lV G (.func (.func 139) #[] #[.pointer (some ⟨w.heap.size+2,0,none⟩),.pointer (some ⟨w.heap.size+2+1,0,none⟩)]) (false,false):=⟨_,_,rfl,e6,e7⟩
 refine Eb (w0:=w) (b1:=w2.heap.size) (b3:=w2.heap.size+1) (bt:=w2.heap.size+1+1) (VP:=(.func (.func 139) #[] #[.pointer (some ⟨w.heap.size,0,none⟩),.pointer (some ⟨w.heap.size+1,0,none⟩)])) (VL:=(.func (.func 139) #[] #[.pointer (some ⟨w.heap.size+2,0,none⟩),.pointer (some ⟨w.heap.size+2+1,0,none⟩)])) ⟨G,?_⟩ ?_
 ·have HN:=aD (Br x3.heap.size x3) 1;have hno:∀i,¬ on (Array.replicate 124 false) i:=fun i=>by
   unfold on;rw[Array.getD_eq_getD_getElem?,Array.getElem?_replicate];split <;> simp
  refine⟨?_,by simp,by simp,rfl,?_,?_,⟨rfl,rfl,rfl,rfl,rfl,rfl,e1,e2,e3,LP,LL⟩,fun i s c _ ho=>absurd ho (hno i),fun i s c _ ho=>absurd ho (hno i),fun i s _ ho=>absurd ho (hno i)⟩
  ·intro b d e;rw[hG] at e;dsimp only at e;split at e
   ·rename_i hb;injection e with e;subst hb;subst e;exact B1.out.below HN
   ·split at e
    ·rename_i hb;injection e with e;subst hb;subst e;exact B3.out.below HN
    ·split at e
     ·rename_i hb;injection e with e;subst hb;subst e
      refine⟨_,HR.out.below HN,fun p hp=>?_,fun q hq=>?_⟩
      ·simp only[List.cons_append,List.nil_append,List.mem_cons,List.not_mem_nil,or_false] at hp;rcases hp with rfl|rfl|rfl
       ·exact⟨(4,true,false),by simp,rfl,LP⟩
       ·exact⟨(5,false,false),by simp,rfl,LL⟩
       ·exact⟨(6,false,false),by simp,rfl,LL⟩
      ·have hq:q∈[((4:Int),true,false),(5,false,false),(6,false,false)]:=hq;rcases List.mem_cons.1 hq with rfl|hq
       ·exact⟨_,.head _,rfl⟩
       ·rcases List.mem_cons.1 hq with rfl|hq
        ·exact⟨_,.tail _ (.head _),rfl⟩
        ·obtain rfl:=List.mem_singleton.1 hq;exact⟨_,.tail _ (.tail _ (.head _)),rfl⟩
     ·split at e
      ·rename_i hb;injection e with e;subst hb;subst e;exact P1.out.below HN
      ·split at e
       ·rename_i hb;injection e with e;subst hb;subst e;exact Q1.out.below HN
       ·split at e
        ·rename_i hb;injection e with e;subst hb;subst e;exact P2.out.below HN
        ·split at e
         ·rename_i hb;injection e with e;subst hb;subst e;exact Q2.out.below HN
         ·cases e
  ·exact aD (aA HB2.out HD.out) 1
  ·intro b d e;rw[hG] at e;dsimp only at e
   repeat (split at e;omega)
   cases e
 ·intro a w' l H hall;obtain⟨bm,h0,hm,hb,hdf⟩:=KI.end H hall;obtain⟨ts,ds⟩:=a;dsimp only at h0 hdf;subst hdf;go_wp2;exact bodyPost_ret (v:=.map (some bm)) (by have e:=results_tmp (fn:=f34) rfl ts prog w';rw[Array.getD_eq_getD_getElem?,h0] at e;exact e) rfl ⟨bm,rfl,hm,hb⟩
end
end Go.Proofs.YthjekgfoidmagaaGreatDoor
