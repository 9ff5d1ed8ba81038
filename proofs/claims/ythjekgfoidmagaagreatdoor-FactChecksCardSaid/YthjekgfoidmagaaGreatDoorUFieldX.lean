/- FieldA13 FieldB13 FieldO13 -/
import Derived.Test.YthjekgfoidmagaaGreatDoorUReader
set_option maxHeartbeats 16000000
set_option maxRecDepth 100000
namespace Go.Proofs.YthjekgfoidmagaaGreatDoor
open Go.Proofs.Tryz
section
open Go Go.RowKit Num
def aE.cellsW(f:aE)(pv ov:Value):Array Value :=
 #[.string ⟨f.key.toArray⟩,.int .i64 f.stamp,.bool f.cancelled,.int .i64 f.day,.int .i64 f.kind,.string ⟨f.ins.toArray⟩,.string ⟨f.other.toArray⟩,.string ⟨f.cur.toArray⟩,.string ⟨f.target.toArray⟩,.string ⟨f.q.toArray⟩,.string ⟨f.amt.toArray⟩,.string ⟨f.fee.toArray⟩,
  .string ⟨f.price.n.toArray⟩,.string ⟨f.price.d.toArray⟩,.string ⟨f.ratio.n.toArray⟩,.string ⟨f.ratio.d.toArray⟩,.string ⟨f.share.n.toArray⟩,.string ⟨f.share.d.toArray⟩,pv,ov,.int .i64 f.choice]
def bEr(ps:List bJ):List Value:=ps.flatMap bJ.cells
def bEk(os:List eJ):List Value:=os.flatMap eJ.cells
structure FSt(W:World)(n1 br bf:Nat)(bad:Bool)(g:aE)(pv ov:Value):Prop where
 kr:aP W br #[.bool bad] 96
 kf:aP W bf (g.cellsW pv ov) 29
 op:W.ownsRow n1 83 2 pv g.picks.length (bEr g.picks)
 oo:W.ownsRow n1 55 7 ov g.options.length (bEk g.options)
def Tch(br bf:Nat)(pv ov:Value)(k:Nat):Prop:=k=br∨k=bf∨pv.ownBlock=some k∨ov.ownBlock=some k
theorem bDt{W:World}{a b:Nat}{cs ds:Array Value}{T U:TypeId}(h:aP W a cs T)(g:aP W b ds U)(hne:T≠U):a≠b:=by
 rintro rfl;have e:=h.2.symm.trans g.2;injection e with e
 injection e with _ e _
 exact hne e
theorem bDd{W W':World}{n1:Nat}{e:TypeId}{s n:Nat}{v:Value}{xs:List Value}{S:Nat->Prop}(h:W.ownsRow n1 e s v n xs)(hw:aZf S W W')(hs:∀k,v.ownBlock=some k->¬ S k):W'.ownsRow n1 e s v n xs:=by
 refine⟨h.1,h.2.imp id ?_⟩;rintro⟨g,cap,cur,rfl,h1,h2,r⟩;exact⟨g,cap,cur,rfl,h1,(hw.block g (Ai.1 h2).1 (hs g rfl)).trans h2,r⟩
section
variable {W W':World}{n1 br bf:Nat}{bad bad':Bool}{g g':aE}{pv ov:Value}
theorem FSt.ne(h:FSt W n1 br bf bad g pv ov):br≠bf:=bDt h.kr h.kf (by decide)
theorem FSt.mark(h:FSt W n1 br bf bad g pv ov)(hw:aZf (· = br) W W')(hb:aP W' br #[.bool bad'] 96):FSt W' n1 br bf bad' g pv ov :=
 ⟨hb,hw.box h.kf (fun e=>h.ne e.symm),bDd h.op hw (fun k hk e=>bC0 h.kr (by decide) h.op (by rw[hk,e])),bDd h.oo hw (fun k hk e=>bC0 h.kr (by decide) h.oo (by rw[hk,e]))⟩
theorem FSt.wrote(h:FSt W n1 br bf bad g pv ov){S:Nat->Prop}(hw:aZf S W W')(hs:∀k,Tch br bf pv ov k->¬ S k):FSt W' n1 br bf bad g pv ov :=
 ⟨hw.box h.kr (hs _ (.inl rfl)),hw.box h.kf (hs _ (.inr (.inl rfl))),bDd h.op hw (fun k hk=>hs k (.inr (.inr (.inl hk)))),bDd h.oo hw (fun k hk=>hs k (.inr (.inr (.inr hk))))⟩
theorem FSt.below(h:FSt W n1 br bf bad g pv ov)(hb:Below W.heap.size W W'):FSt W' n1 br bf bad g pv ov:=h.wrote (S:=fun _=>False) (aZf.of_below hb) (fun _ _ h=>h)
theorem FSt.set(h:FSt W n1 br bf bad g pv ov)(j:Nat)(v:Value)(hc:(g.cellsW pv ov).setIfInBounds j v=g'.cellsW pv ov)(h1:g'.picks=g.picks)(h2:g'.options=g.options):FSt (W.setCell ⟨bf,j,none⟩ v) n1 br bf bad g' pv ov:=by
 have hw:aZf (· = bf) W (W.setCell ⟨bf,j,none⟩ v):=aZf.set _ _ _ rfl;refine⟨hw.box h.kr h.ne,?_,?_,?_⟩
 ·rw[<-hc];exact bGb h.kf
 ·rw[h1];exact bDd h.op hw (fun k hk e=>bC0 h.kf (by decide) h.op (by rw[hk,e]))
 ·rw[h2];exact bDd h.oo hw (fun k hk e=>bC0 h.kf (by decide) h.oo (by rw[hk,e]))
end
def Fld(W:World)(n1 br bf:Nat)(bad:Bool)(g:aE)(pv ov:Value)(i:Nat)(s:List UInt8)(e:Ending)(W':World):Prop :=
 (∃v,e=.returned v)/\∃bad' g' pv' ov',FSt W' n1 br bf bad' g' pv' ov'/\aZf (Tch br bf pv ov) W W'/\(∀k,pv'.ownBlock=some k->pv.ownBlock=some k∨W.heap.size<=k)/\(∀k,ov'.ownBlock=some k->ov.ownBlock=some k∨W.heap.size<=k) /\
  bad'=(bad || (bCi g i s).isNone)/\(∀h,bCi g i s=some h->g'=h)/\g'.picks.length<=g.picks.length+65537/\g'.options.length<=g.options.length+65537
theorem bP1(n1 br bf:Nat)(bad:Bool)(g:aE)(pv ov:Value)(i:Nat)(hi:i=0∨i=1∨i=2∨i=3)(s:List UInt8)(W:World)(hF:FSt W n1 br bf bad g pv ov):
  Calls prog 129 #[.pointer (some ⟨br,0,none⟩),.pointer (some ⟨bf,0,none⟩),.int .i64 (i:Int),.string ⟨s.toArray⟩] W (Fld W n1 br bf bad g pv ov i s):=by
 have HF:=Hd hF;have c5:W.cell? ⟨bf,5,none⟩=some (.string ⟨g.ins.toArray⟩):=hF.kf.cell 5;have c6:W.cell? ⟨bf,6,none⟩=some (.string ⟨g.other.toArray⟩):=hF.kf.cell 6;have c7:W.cell? ⟨bf,7,none⟩=some (.string ⟨g.cur.toArray⟩):=hF.kf.cell 7;have c8:W.cell? ⟨bf,8,none⟩=some (.string ⟨g.target.toArray⟩):=hF.kf.cell 8;have f5:=aR hF.kf.2 5;have f6:=aR hF.kf.2 6;have f7:=aR hF.kf.2 7;have f8:=aR hF.kf.2 8;have HW:Hid (∀j v,aZf (Tch br bf pv ov) W (W.setCell ⟨bf,j,none⟩ v)):=fun j v=>aZf.set _ _ _ (.inr (.inl rfl))
 clear hF;rcases hi with rfl|rfl|rfl|rfl
 all_goals
  go_enter func129,ntmps129;go_wp2;exact bodyPost_ret (v:=.tuple #[]) (by simp[results,results129,go_sem]) rfl ⟨⟨_,rfl⟩,bad,(bCi g _ s).getD g,pv,ov,HF.out.set _ _ rfl rfl rfl,HW.out _ _,fun _ h=>.inl h,fun _ h=>.inl h,by show bad=(bad || false);simp,fun h e=>by rw[e];rfl,Nat.le_add_right _ _,Nat.le_add_right _ _⟩
def bLp(g:aE)(i:Nat)(x:List UInt8):aE:=if i=4 then { g with q:=x } else if i=5 then { g with amt:=x } else { g with fee:=x }
def bGe(g:aE)(i:Nat)(x:bZ):aE:=if i=7 then { g with price:=x } else if i=8 then { g with ratio:=x } else { g with share:=x }
theorem bHa{α β:Type}(f:α->β)(o:Option α):(o.map f).isNone=o.isNone:=by cases o <;> rfl
theorem bJ4{α β:Type}(f:α->β)(o:Option α)(d:α):∀h,o.map f=some h->f (o.getD d)=h:=by
 intro h e;cases o with
 |none=>cases e
 |some x=>exact Option.some.inj e
theorem bP3(n1 br bf:Nat)(bad:Bool)(g:aE)(pv ov:Value)(i:Nat)(hi:i=4∨i=5∨i=6)(s:List UInt8)(hl:s.length<=65536)(W:World)(hF:FSt W n1 br bf bad g pv ov):
  Calls prog 129 #[.pointer (some ⟨br,0,none⟩),.pointer (some ⟨bf,0,none⟩),.int .i64 (i:Int),.string ⟨s.toArray⟩] W (Fld W n1 br bf bad g pv ov i s):=by
 have HF:=Hd hF;have HRI:=Hd (bHl br bad s W hF.kr hl);clear hF hl;have hrf:bCi g i s=(bDv s).map (bLp g i):=by rcases hi with rfl|rfl|rfl <;> rfl
 have HRN:Hid ((bDv s).isNone=(bCi g i s).isNone/\∀h,bCi g i s=some h->bLp g i ((bDv s).getD [])=h):=by
  rw[hrf];exact⟨(bHa _ _).symm,bJ4 _ _ _⟩
 clear hrf;generalize(bDv s).isNone=nn at *;generalize(bDv s).getD []=x at *;rcases hi with rfl|rfl|rfl
 all_goals
  go_enter func129,ntmps129;go_wp2_with fail;refine HRI.out.mono ?_;rintro e W1 ⟨rfl,hM⟩;have hF1:=HF.out.mark hM.wrote.1 hM.wrote.2;have HF1:=Hd hF1;have HW1:Hid (∀j v,aZf (Tch br bf pv ov) W (W1.setCell ⟨bf,j,none⟩ v)):=fun j v=>(hM.wrote.1.weaken (fun k h=>.inl h)).trans (aZf.set _ _ _ (.inr (.inl rfl)))
  have c9:W1.cell? ⟨bf,9,none⟩=some (.string ⟨g.q.toArray⟩):=hF1.kf.cell 9;have c10:W1.cell? ⟨bf,10,none⟩=some (.string ⟨g.amt.toArray⟩):=hF1.kf.cell 10;have c11:W1.cell? ⟨bf,11,none⟩=some (.string ⟨g.fee.toArray⟩):=hF1.kf.cell 11;have f9:=aR hF1.kf.2 9;have f10:=aR hF1.kf.2 10;have f11:=aR hF1.kf.2 11;clear hM hF1;go_wp2;exact bodyPost_ret (v:=.tuple #[]) (by simp[results,results129,go_sem]) rfl ⟨⟨_,rfl⟩,_,bLp g _ x,pv,ov,HF1.out.set _ _ rfl rfl rfl,HW1.out _ _,fun _ h=>.inl h,fun _ h=>.inl h,by rw[HRN.out.1],HRN.out.2,Nat.le_add_right _ _,Nat.le_add_right _ _⟩
theorem bP2(n1 br bf:Nat)(bad:Bool)(g:aE)(pv ov:Value)(i:Nat)(hi:i=7∨i=8∨i=9)(s:List UInt8)(hl:s.length<=65536)(W:World)(hE:iE W)(hF:FSt W n1 br bf bad g pv ov):
  Calls prog 129 #[.pointer (some ⟨br,0,none⟩),.pointer (some ⟨bf,0,none⟩),.int .i64 (i:Int),.string ⟨s.toArray⟩] W (Fld W n1 br bf bad g pv ov i s):=by
 have HF:=Hd hF;have HRI:=Hd (bG0 br bad s W hE hF.kr hl);clear hF hl hE;have hrf:bCi g i s=(bDm s).map (bGe g i):=by rcases hi with rfl|rfl|rfl <;> rfl
 have HRN:Hid ((bDm s).isNone=(bCi g i s).isNone/\∀h,bCi g i s=some h->bGe g i ((bDm s).getD bD4)=h):=by
  rw[hrf];exact⟨(bHa _ _).symm,bJ4 _ _ _⟩
 clear hrf;generalize(bDm s).isNone=nn at *;generalize(bDm s).getD bD4=x at *;obtain⟨xn,xd⟩:=x;dsimp only at HRI;rcases hi with rfl|rfl|rfl
 all_goals
  go_enter func129,ntmps129;go_wp2_with fail;refine HRI.out.mono ?_;rintro e W1 ⟨rfl,hM,hK⟩;have hF1:=HF.out.mark hM hK;have HF1:=Hd hF1;have HW1:Hid (∀j j' v v',aZf (Tch br bf pv ov) W ((W1.setCell ⟨bf,j,none⟩ v).setCell ⟨bf,j',none⟩ v')):=fun j j' v v'=>((hM.weaken (fun k h=>.inl h)).trans (aZf.set _ _ _ (.inr (.inl rfl)))).trans (aZf.set _ _ _ (.inr (.inl rfl)))
  have c12:W1.cell? ⟨bf,12,none⟩=some (.string ⟨g.price.n.toArray⟩):=hF1.kf.cell 12;have c13:W1.cell? ⟨bf,13,none⟩=some (.string ⟨g.price.d.toArray⟩):=hF1.kf.cell 13;have c14:W1.cell? ⟨bf,14,none⟩=some (.string ⟨g.ratio.n.toArray⟩):=hF1.kf.cell 14;have c15:W1.cell? ⟨bf,15,none⟩=some (.string ⟨g.ratio.d.toArray⟩):=hF1.kf.cell 15;have c16:W1.cell? ⟨bf,16,none⟩=some (.string ⟨g.share.n.toArray⟩):=hF1.kf.cell 16;have c17:W1.cell? ⟨bf,17,none⟩=some (.string ⟨g.share.d.toArray⟩):=hF1.kf.cell 17;have f12:=aR hF1.kf.2 12;have f13:=aR hF1.kf.2 13;have f14:=aR hF1.kf.2 14;have f15:=aR hF1.kf.2 15;have f16:=aR hF1.kf.2 16;have f17:=aR hF1.kf.2 17;clear hM hK hF1;go_wp2
 ·exact bodyPost_ret (v:=.tuple #[]) (by simp[results,results129,go_sem]) rfl ⟨⟨_,rfl⟩,_,bGe g 7 ⟨xn,xd⟩,pv,ov,(HF1.out.set (g':=bGe g 7 ⟨xn,g.price.d⟩) _ _ rfl rfl rfl).set _ _ rfl rfl rfl,HW1.out _ _ _ _,fun _ h=>.inl h,fun _ h=>.inl h,by rw[HRN.out.1],HRN.out.2,Nat.le_add_right _ _,Nat.le_add_right _ _⟩
 ·exact bodyPost_ret (v:=.tuple #[]) (by simp[results,results129,go_sem]) rfl ⟨⟨_,rfl⟩,_,bGe g 8 ⟨xn,xd⟩,pv,ov,(HF1.out.set (g':=bGe g 8 ⟨xn,g.ratio.d⟩) _ _ rfl rfl rfl).set _ _ rfl rfl rfl,HW1.out _ _ _ _,fun _ h=>.inl h,fun _ h=>.inl h,by rw[HRN.out.1],HRN.out.2,Nat.le_add_right _ _,Nat.le_add_right _ _⟩
 ·exact bodyPost_ret (v:=.tuple #[]) (by simp[results,results129,go_sem]) rfl ⟨⟨_,rfl⟩,_,bGe g 9 ⟨xn,xd⟩,pv,ov,(HF1.out.set (g':=bGe g 9 ⟨xn,g.share.d⟩) _ _ rfl rfl rfl).set _ _ rfl rfl rfl,HW1.out _ _ _ _,fun _ h=>.inl h,fun _ h=>.inl h,by rw[HRN.out.1],HRN.out.2,Nat.le_add_right _ _,Nat.le_add_right _ _⟩
theorem bMe(n1 br bf:Nat)(bad:Bool)(g:aE)(pv ov:Value)(s:List UInt8)(hl:s.length<=65536)(W:World)(hE:iE W)(hF:FSt W n1 br bf bad g pv ov):
  Calls prog 129 #[.pointer (some ⟨br,0,none⟩),.pointer (some ⟨bf,0,none⟩),.int .i64 12,.string ⟨s.toArray⟩] W (Fld W n1 br bf bad g pv ov 12 s):=by
 have HF:=Hd hF;have HRI:=Hd (bHk br bad s W hE hF.kr hl);clear hF hl hE;have HRN:Hid (bCi g 12 s=(bD7 s).map fun x=>{ g with choice:=x }):=rfl;go_enter func129,ntmps129;go_wp2_with fail;refine HRI.out.mono ?_;rintro e W1 ⟨n,rfl,hM,hn⟩;have hF1:=HF.out.mark hM.wrote.1 hM.wrote.2;have HF1:=Hd hF1;have HW1:Hid (∀j v,aZf (Tch br bf pv ov) W (W1.setCell ⟨bf,j,none⟩ v)):=fun j v=>(hM.wrote.1.weaken (fun k h=>.inl h)).trans (aZf.set _ _ _ (.inr (.inl rfl)))
 have c20:W1.cell? ⟨bf,20,none⟩=some (.int .i64 g.choice):=hF1.kf.cell 20;have f20:=aR hF1.kf.2 20;have HN:=Hd hn;clear hM hF1 hn;go_wp2;refine bodyPost_ret (v:=.tuple #[]) (by simp[results,results129,go_sem]) rfl ⟨⟨_,rfl⟩,_,{ g with choice:=n },pv,ov,HF1.out.set _ _ rfl rfl rfl,HW1.out _ _,fun _ h=>.inl h,fun _ h=>.inl h,by rw[HRN.out,bHa],fun h e=>?_,Nat.le_add_right _ _,Nat.le_add_right _ _⟩;rw[HRN.out,Option.map_eq_some_iff] at e;obtain⟨x,hx,rfl⟩:=e;rw[HN.out x hx]
end
section
open Go Go.RowKit Num
theorem bMc:(prog.info? 83).map (fun i=>(i.zero,i.size,i.bytes))=some (some (.agg #[.string ⟨#[]⟩,.string ⟨#[]⟩]),2,32):=by kernel_rfl
theorem bNs:(prog.info? 55).map (fun i=>(i.zero,i.size,i.bytes))=some (some (.agg #[.string ⟨#[]⟩,.string ⟨#[]⟩,.string ⟨#[]⟩,.string ⟨#[]⟩,.string ⟨#[]⟩,.string ⟨#[]⟩,.string ⟨#[]⟩]),7,112):=by kernel_rfl
structure bNd(W0:World)(br:Nat)(nb:Bool)(n1:Nat)(T:TypeId)(sz:Nat)(pv:Value)(n:Nat)(xs news:List Value)(v':Value)(W3 w5:World):Prop where
 wr:aZf (· = br) W0 W3
 kb:aP W3 br #[.bool nb] 96
 own:w5.ownsRow n1 T sz v' (n+1) (xs++news)
 gr:(W3.alloc (.cells news.toArray T)).grownBy w5 pv.ownBlock
 ob:v'.ownBlock=pv.ownBlock∨v'.ownBlock=some (W3.heap.size+1)
structure bPv where
 v':Value
 W3:World
 w5:World
noncomputable def bKj:Array Oper:=(f129.body.bind (jE 29)).getD #[]
def bJ2:List (Nat×Nat):=[(0,119),(1,120),(2,121),(3,122),(4,123),(5,124),(6,125),(7,126),(8,127),(9,128),(10,129),(11,130),(12,131),(13,132),(14,133),(15,134),(16,135),(17,136)]
structure bFc where
 W0:World
 br:Nat
 bf:Nat
 bl:Nat
 bad:Bool
 nb:Bool
 cs:Array Value
 pv:Value
 n:Nat
 xs:List Value
 n1:Nat
 x:ByteArray
 y:ByteArray
 q:ByteArray
def bFc.val(C:bFc)(γ:bPv):Nat->Value
 |0=>.pointer (some ⟨C.bf,0,none⟩)
 |1=>.pointer (some ⟨C.bf,0,none⟩)
 |2=>.pointer (some ⟨C.bf,0,none⟩)
 |3=>.pointer (some ⟨C.bf,18,none⟩)
 |4=>C.pv
 |5=>.slice (some ⟨C.bl,0,none⟩) 2 2
 |6=>.pointer (some ⟨C.bl,0,none⟩)
 |7=>.string C.x
 |8=>.pointer (some ⟨C.br,0,none⟩)
 |9=>.slice (some ⟨C.bl,0,none⟩) 2 2
 |10=>.pointer (some ⟨C.bl,1,none⟩)
 |11=>.string C.y
 |12=>.string C.q
 |13=>.agg #[.string C.x,.string C.q]
 |14=>.slice (some ⟨γ.W3.heap.size,0,none⟩) 1 1
 |15=>γ.v'
 |16=>.pointer (some ⟨C.bf,0,none⟩)
 |17=>.pointer (some ⟨C.bf,18,none⟩)
 |_=>undef
abbrev bFc.app(C:bFc)(γ:bPv):Prop:=bNd C.W0 C.br C.nb C.n1 83 2 C.pv C.n C.xs [.string C.x,.string C.q] γ.v' γ.W3 γ.w5
def bFc.G(C:bFc)(γ:bPv)(l:Array Bool)(W:World):Prop :=
 (¬ lP l 15->aZf (· = C.br) C.W0 W/\(lP l 12->aP W C.br #[.bool C.nb] 96)/\(¬ lP l 12->aP W C.br #[.bool C.bad] 96)) /\
 (lP l 14->¬ lP l 15->aZf (· = C.br) C.W0 γ.W3/\W = γ.W3.alloc (.cells #[.string C.x,.string C.q] 83)) /\
 (lP l 15->C.app γ/\(¬ lP l 18->W = γ.w5)/\(lP l 18->W = γ.w5.setCell ⟨C.bf,18,none⟩ γ.v'))
structure bQo(C:bFc)(t0:Array Value):Prop where
 sz:t0.size=194
 tz:t0[0]?=some (.pointer (some ⟨C.br,0,none⟩))
 t1:t0[1]?=some (.pointer (some ⟨C.bf,0,none⟩))
 t9:t0[9]?=some (.slice (some ⟨C.bl,0,none⟩) 2 2)
 kr:aP C.W0 C.br #[.bool C.bad] 96
 kf:aP C.W0 C.bf C.cs 29
 pc:C.cs[18]?=some C.pv
 kl:aP C.W0 C.bl #[.string C.x,.string C.y] 9
 own:C.W0.ownsRow C.n1 83 2 C.pv C.n C.xs
 hb:C.n1<=C.W0.heap.size
 hn:C.n<=10000000
 hi:∀W,aP W C.br #[.bool C.bad] 96->Calls prog 189 #[.pointer (some ⟨C.br,0,none⟩),.string C.y] W fun e w'=>e=.returned (.string C.q)/\aZf (· = C.br) W w'/\aP w' C.br #[.bool C.nb] 96
theorem bIv{o:Oper}{a:Act}{w:World}{x y:Nat}(ho:o.op=.store 26 (.tmp x) (.tmp y)){b:Nat}(hx:a.tmps[x]?=some (.pointer (some ⟨b,18,none⟩))){v:Value}(hy:a.tmps[y]?=some v){base e s m:Nat}{xs:List Value}{wr:World}(hv:wr.ownsRow base e s v m xs){T:TypeId}{cs:Array Value}{u:Value}(hb:aP w b cs T)(hu:cs[18]?=some u):
  (execOp a.eval o).run prog w=.ok .skip (w.setCell ⟨b,18,none⟩ v):=by
 have h1:w.cell? ⟨b,18,none⟩=some u:=(hb.cell 18).trans hu;have h2:=aR hb.2 18;rcases hv.2 with⟨rfl,_⟩|⟨g,cap,cur,rfl,_⟩
 ·simp[execOp,ho,hx,hy,h1,h2,go_sem]
 ·simp[execOp,ho,hx,hy,h1,h2,go_sem]
section
variable {C:bFc}{t0:Array Value}{Q:Exit->Act->World->Prop}{l:Array Bool}{w:World}
theorem bFc.keep{γ:bPv}{i:Nat}(h:C.G γ l w)(h12:i≠12)(h14:i≠14)(h15:i≠15)(h18:i≠18):C.G γ (l.setIfInBounds i true) w:=by
 obtain⟨k1,k2,k3⟩:=h;refine⟨fun h'=>?_,fun h' h''=>k2 (mQ h' (Ne.symm h14)) (fun g=>h'' (fH g)),fun h'=>?_⟩
 ·obtain⟨a1,a2,a3⟩:=k1 (fun g=>h' (fH g));exact⟨a1,fun g=>a2 (mQ g (Ne.symm h12)),fun g=>a3 (fun g'=>g (fH g'))⟩
 ·obtain⟨a1,a2,a3⟩:=k3 (mQ h' (Ne.symm h15));exact⟨a1,fun h''=>a2 (fun g=>h'' (fH g)),fun h''=>a3 (mQ h'' (Ne.symm h18))⟩
theorem bG9(M:bQo C t0){a:Act}(hdf:a.defers=[])(ht:a.tmps=t0)(hw:w.drewN 1=C.W0)
  (hQ:∀ γ,C.app γ->Q .normal { tmps:=iZ (C.val γ) bJ2 t0,defers:=[] } (γ.w5.setCell ⟨C.bf,18,none⟩ γ.v')):(Code.region 29 bKj true).wp prog Q a w:=by
 obtain⟨i0,hi0,hz0,hz1,hz2⟩:=info_parts bMc;have hsz:bKj.size=19:=by kernel_rfl
 have hnf:¬ C.bf=C.br:=fun e=>bDt M.kf M.kr (by decide) e
 have hnl:¬ C.bl=C.br:=fun e=>bDt M.kl M.kr (by decide) e
 refine eV (ds:=bJ2) (val:=C.val) (G:=C.G) (by kernel_rfl) (by kernel_rfl) (by decide) (fun p hp=>?_) (by kernel_rfl) ?_ (γ:=⟨.bool false,w,w⟩) hdf ht (by rw[hw];exact⟨fun _=>⟨aZf.refl _ _,fun h=>absurd h (Gu _ _),fun _=>M.kr⟩,fun h=>absurd h (Gu _ _),fun h=>absurd h (Gu _ _)⟩) ?_
 ·rw[M.sz];have:∀p,p∈bJ2->p.2<194:=by decide
  exact this p hp
 ·intro γ l a w i H hr;have hi:i<19:=by
   obtain⟨_,o,ho,_⟩:=mem_ready.1 hr;have:=(Ai.1 ho).1;rw[hsz] at this;exact this
  have t0':=H.low (s:=0) (by decide) M.tz;have t1:=H.low (s:=1) (by decide) M.t1;have t9:=H.low (s:=9) (by decide) M.t9;have hno:=bDz hr
  match i,hi,hr with
  |0,_,hr=>exact aWj (.move (.tmp 1)) (.pointer (some ⟨C.bf,0,none⟩)) (fun o h=>by simp[execOp,h,t1,go_sem]) (bFc.keep H.g (by decide) (by decide) (by decide) (by decide))
  |1,_,hr=>exact aWj (.move (.tmp 1)) (.pointer (some ⟨C.bf,0,none⟩)) (fun o h=>by simp[execOp,h,t1,go_sem]) (bFc.keep H.g (by decide) (by decide) (by decide) (by decide))
  |2,_,hr =>
   have v1:a.tmps[120]?=some (.pointer (some ⟨C.bf,0,none⟩)):=H.dep hr 1 120;exact aWj (.nilCheck (.tmp 120)) (.pointer (some ⟨C.bf,0,none⟩)) (fun o h=>by simp[execOp,h,v1,go_sem]) (bFc.keep H.g (by decide) (by decide) (by decide) (by decide))
  |3,_,hr =>
   have v2:a.tmps[121]?=some (.pointer (some ⟨C.bf,0,none⟩)):=H.dep hr 2 121;exact aWj (.fieldAddr 29 (.tmp 121) 15) (.pointer (some ⟨C.bf,18,none⟩)) (fun o h=>by simp[execOp,h,v2,go_sem]) (bFc.keep H.g (by decide) (by decide) (by decide) (by decide))
  |4,_,hr =>
   have v3:a.tmps[122]?=some (.pointer (some ⟨C.bf,18,none⟩)):=H.dep hr 3 122;have h15:¬ lP l 15:=fun h=>hno (H.back13 15 4 (by kernel_rfl) h)
   have c0:=(((H.g.1 h15).1.box M.kf hnf).cell 18).trans M.pc;exact aWj (.load 26 (.tmp 122)) (C.pv) (fun o h=>by simp[execOp,h,v3,c0,go_sem]) (bFc.keep H.g (by decide) (by decide) (by decide) (by decide))
  |5,_,hr=>exact aWj (.move (.tmp 9)) (.slice (some ⟨C.bl,0,none⟩) 2 2) (fun o h=>by simp[execOp,h,t9,go_sem]) (bFc.keep H.g (by decide) (by decide) (by decide) (by decide))
  |6,_,hr =>
   have v5:a.tmps[124]?=some (.slice (some ⟨C.bl,0,none⟩) 2 2):=H.dep hr 5 124;exact aWj (.indexAddr 36 (.tmp 124) (.const (.int .i64 0))) (.pointer (some ⟨C.bl,0,none⟩)) (fun o h=>by simp[execOp,h,v5,go_sem]) (bFc.keep H.g (by decide) (by decide) (by decide) (by decide))
  |7,_,hr =>
   have v6:a.tmps[125]?=some (.pointer (some ⟨C.bl,0,none⟩)):=H.dep hr 6 125;have h15:¬ lP l 15:=fun h=>hno (H.back13 13 7 (by kernel_rfl) (H.back13 14 13 (by kernel_rfl) (H.back13 15 14 (by kernel_rfl) h)))
   have c0:=((H.g.1 h15).1.box M.kl hnl).cell 0;exact aWj (.load 9 (.tmp 125)) (.string C.x) (fun o h=>by simp[execOp,h,v6,c0,go_sem]) (bFc.keep H.g (by decide) (by decide) (by decide) (by decide))
  |8,_,hr=>exact aWj (.move (.tmp 0)) (.pointer (some ⟨C.br,0,none⟩)) (fun o h=>by simp[execOp,h,t0',go_sem]) (bFc.keep H.g (by decide) (by decide) (by decide) (by decide))
  |9,_,hr=>exact aWj (.move (.tmp 9)) (.slice (some ⟨C.bl,0,none⟩) 2 2) (fun o h=>by simp[execOp,h,t9,go_sem]) (bFc.keep H.g (by decide) (by decide) (by decide) (by decide))
  |10,_,hr =>
   have v9:a.tmps[128]?=some (.slice (some ⟨C.bl,0,none⟩) 2 2):=H.dep hr 9 128;exact aWj (.indexAddr 36 (.tmp 128) (.const (.int .i64 1))) (.pointer (some ⟨C.bl,1,none⟩)) (fun o h=>by simp[execOp,h,v9,go_sem]) (bFc.keep H.g (by decide) (by decide) (by decide) (by decide))
  |11,_,hr =>
   have v10:a.tmps[129]?=some (.pointer (some ⟨C.bl,1,none⟩)):=H.dep hr 10 129;have h15:¬ lP l 15:=fun h=>hno (H.back13 12 11 (by kernel_rfl) (H.back13 13 12 (by kernel_rfl) (H.back13 14 13 (by kernel_rfl) (H.back13 15 14 (by kernel_rfl) h))))
   have c0:=((H.g.1 h15).1.box M.kl hnl).cell 1;exact aWj (.load 9 (.tmp 129)) (.string C.y) (fun o h=>by simp[execOp,h,v10,c0,go_sem]) (bFc.keep H.g (by decide) (by decide) (by decide) (by decide))
  |12,_,hr =>
   have v8:a.tmps[127]?=some (.pointer (some ⟨C.br,0,none⟩)):=H.dep hr 8 127;have v11:a.tmps[130]?=some (.string C.y):=H.dep hr 11 130;have h14:¬ lP l 14:=fun h=>hno (H.back13 13 12 (by kernel_rfl) (H.back13 14 13 (by kernel_rfl) h))
   have h15:¬ lP l 15:=fun h=>h14 (H.back13 15 14 (by kernel_rfl) h)
   obtain⟨a1,a2,a3⟩:=H.g.1 h15;refine gA (f:=189) (lb:=#[]) (c:=.func 189) (args:=#[.tmp 127,.tmp 130]) (ts:=#[147,9]) (vs:=#[.pointer (some ⟨C.br,0,none⟩),.string C.y]) (by kernel_rfl) rfl (aXb func189) (by simp[Act.eval,v8,v11]) ((M.hi w (a3 hno)).mono ?_);rintro e w' ⟨rfl,hw',hb'⟩;exact⟨_,γ,rfl,rfl,fun _ _=>rfl,fun _=>⟨a1.trans hw',fun _=>hb',fun h=>absurd (zE (by rw[H.sz,hsz];decide)) h⟩,fun h=>absurd (mQ h (by decide)) h14,fun h=>absurd (mQ h (by decide)) h15⟩
  |13,_,hr =>
   have v7:a.tmps[126]?=some (.string C.x):=H.dep hr 7 126;have v12:a.tmps[131]?=some (.string C.q):=H.dep hr 12 131;exact aWj (.build 83 #[(0,.tmp 126),(1,.tmp 131)]) (.agg #[.string C.x,.string C.q]) (fun o h=>by simp[execOp,h,v7,v12,go_sem]) (bFc.keep H.g (by decide) (by decide) (by decide) (by decide))
  |14,_,hr =>
   have v13:a.tmps[132]?=some (.agg #[.string C.x,.string C.q]):=H.dep hr 13 132;have o12:lP l 12:=H.back13 13 12 (by kernel_rfl) (aG hr (by kernel_rfl));have h15:¬ lP l 15:=fun h=>hno (H.back13 15 14 (by kernel_rfl) h)
   obtain⟨a1,a2,a3⟩:=H.g.1 h15;refine aLg (X:=.buildSlice 26 1 #[(0,.tmp 132)]) (v:=.slice (some ⟨w.heap.size,0,none⟩) 1 1) (w':=w.alloc (.cells #[.string C.x,.string C.q] 83)) ⟨γ.v',w,γ.w5⟩ (fun j hj=>?_) (by kernel_rfl) (fun o h=>by simp[execOp,h,v13,go_sem]) rfl ⟨fun _=>⟨a1.then_below (aB _ _),fun _=>(a2 o12).below (aB _ _),fun h=>absurd (fH o12) h⟩,fun _ _=>⟨a1,rfl⟩,fun h=>absurd (mQ h (by decide)) h15⟩
   match j,hj with
   |14,hj=>exact absurd hj hno
   |0,_|1,_|2,_|3,_|4,_|5,_|6,_|7,_|8,_|9,_|10,_|11,_|12,_|13,_|15,_|16,_|17,_=>rfl
   |_+18,_=>rfl
  |15,_,hr =>
   have v4:a.tmps[123]?=some C.pv:=H.dep hr 4 123;have v14:a.tmps[133]?=some (.slice (some ⟨γ.W3.heap.size,0,none⟩) 1 1):=H.dep hr 14 133;have o14:lP l 14:=aG hr (by kernel_rfl);have o12:lP l 12:=H.back13 13 12 (by kernel_rfl) (H.back13 14 13 (by kernel_rfl) o14);have h18:¬ lP l 18:=fun h=>hno (H.back13 18 15 (by kernel_rfl) h)
   obtain⟨hB,hW⟩:=H.g.2.1 o14 hno;have hkb:=(H.g.1 hno).2.1 o12;subst hW;have hkb3:aP γ.W3 C.br #[.bool C.nb] 96:=by
    refine⟨?_,?_⟩
    ·have:=hB.size;have:=M.kr.1;omega
    ·rw[<-hkb.2];exact(Below.heap_alloc _ _ _ (by have:=hB.size;have:=M.kr.1;omega)).symm
   have hown:=(bDd M.own hB (fun k hk e=>bC0 M.kr (by decide) M.own (by rw[hk,e]))).alloc (.cells #[.string C.x,.string C.q] 83);have hX:(bKj[15]?).map (fun o=>(o.op,o.guard))=some (.call { callee:=.builtin .append,args:=#[.tmp 123,.tmp 133],argTypes:=#[26,26] },none):=by kernel_rfl
   cases ho:bKj[15]? with
   |none=>rw[ho] at hX;cases hX
   |some o =>
    rw[ho] at hX;simp only[Option.map_some,Option.some.injEq,Prod.mk.injEq] at hX;obtain⟨v',w',hrun,h2,h3,_,h5⟩:=run_append_own_at (P:=prog) (γ.W3.alloc (.cells #[.string C.x,.string C.q] 83)) C.n1 26 o.type 83 i0 (.agg #[.string ⟨#[]⟩,.string ⟨#[]⟩]) 2 32 underlying26 hi0 hz0 hz1 hz2 rfl (by decide) C.pv C.n C.xs hown ⟨γ.W3.heap.size,0,none⟩ 1 1 [.string C.x,.string C.q] rfl (fun j u hj=>aUb γ.W3 #[.string C.x,.string C.q] _ j u hj) (by simp[Value.oneCell']) (by have:=M.hn;unfold maxLen;omega) (by have:=M.hn;omega) (by rw[World.size_alloc];have:=M.hb;have:=hB.size;omega);refine bU ho hX.2 ?_;have e1:(execOp a.eval o).run prog (γ.W3.alloc (.cells #[.string C.x,.string C.q] 83))=.ok (.value v') w':=by
     simp[execOp,hX.1,resolve,invoke,builtin,Act.eval,v4,v14,hrun,Result.andThen]
    unfold Oper.wp;rw[e1];refine⟨o,v',⟨v',γ.W3,w'⟩,ho,rfl,rfl,fun j hj=>?_,fun h=>absurd (zE (by rw[H.sz,hsz];decide)) h,fun _ h=>absurd (zE (by rw[H.sz,hsz];decide)) h,fun _=>⟨⟨hB,hkb3,h2,h3,by rw[World.size_alloc] at h5;exact h5⟩,fun _=>rfl,fun h=>absurd (mQ h (by decide)) h18⟩⟩
    match j,hj with
    |15,hj=>exact absurd hj hno
    |0,_|1,_|2,_|3,_|4,_|5,_|6,_|7,_|8,_|9,_|10,_|11,_|12,_|13,_|14,_|16,_|17,_=>rfl
    |_+18,_=>rfl
  |16,_,hr =>
   have v0:a.tmps[119]?=some (.pointer (some ⟨C.bf,0,none⟩)):=H.dep hr 0 119;exact aWj (.nilCheck (.tmp 119)) (.pointer (some ⟨C.bf,0,none⟩)) (fun o h=>by simp[execOp,h,v0,go_sem]) (bFc.keep H.g (by decide) (by decide) (by decide) (by decide))
  |17,_,hr =>
   have v16:a.tmps[135]?=some (.pointer (some ⟨C.bf,0,none⟩)):=H.dep hr 16 135;exact aWj (.fieldAddr 29 (.tmp 135) 15) (.pointer (some ⟨C.bf,18,none⟩)) (fun o h=>by simp[execOp,h,v16,go_sem]) (bFc.keep H.g (by decide) (by decide) (by decide) (by decide))
  |18,_,hr =>
   have v15:a.tmps[134]?=some γ.v':=H.dep hr 15 134;have v17:a.tmps[136]?=some (.pointer (some ⟨C.bf,18,none⟩)):=H.dep hr 17 136;have o15:lP l 15:=aG hr (by kernel_rfl);obtain⟨ap,hW,_⟩:=H.g.2.2 o15;have hW:=hW hno;subst hW;have hbx:aP γ.w5 C.bf C.cs 29:=by
    have h1:=(ap.wr.box M.kf hnf).below (aB γ.W3 (.cells #[.string C.x,.string C.q] 83));have h2:=(bDd M.own ap.wr (fun k hk e=>bC0 M.kr (by decide) M.own (by rw[hk,e]))).alloc (.cells #[.string C.x,.string C.q] 83);exact⟨Nat.lt_of_lt_of_le h1.1 ap.gr.size,(ap.gr.block C.bf h1.1 (fun e=>bC0 h1 (by decide) h2 e.symm)).trans h1.2⟩
   exact aH0 (X:=.store 26 (.tmp 136) (.tmp 134)) (by kernel_rfl) (fun o h=>bIv h v17 v15 ap.own hbx M.pc) ⟨fun h=>absurd (fH o15) h,fun _ h=>absurd (fH o15) h,fun _=>⟨ap,fun h=>absurd (zE (by rw[H.sz,hsz];decide)) h,fun _=>rfl⟩⟩
  |n+19,h,_=>exact absurd h (by omega)
 ·rintro γ l W hall ⟨k1,k2,k3⟩;have hn:∀j,j<19->lP l j:=fun j hj=>hall j (by rw[hsz];exact hj)
  obtain⟨ap,_,hW⟩:=k3 (hn 15 (by decide));obtain rfl:=hW (hn 18 (by decide));exact hQ γ ap
end
end
section
open Go Go.RowKit Num
theorem aZf.of_row(w:World)(b:Nat)(cs:Array Value):aZf (· = b) w (w.setRow b cs):=⟨rfl,rfl,rfl,by simp[World.setRow],fun k _ hn=>setRow_other w b k cs hn⟩
noncomputable def bJe:Array Oper:=(f129.body.bind (jE 39)).getD #[]
def bIl:List (Nat×Nat):=[(0,183),(1,184),(2,185),(3,186),(4,187),(5,188),(6,189),(7,190),(8,191),(9,192)]
structure bFk where
 W0:World
 br:Nat
 bf:Nat
 bo:Nat
 bad:Bool
 cs:Array Value
 ov:Value
 n:Nat
 xs:List Value
 n1:Nat
 oc:eJ
structure bO7 where
 v':Value
 w5:World
def bFk.val(C:bFk)(γ:bO7):Nat->Value
 |0=>.pointer (some ⟨C.bf,0,none⟩)
 |1=>.pointer (some ⟨C.bf,0,none⟩)
 |2=>.pointer (some ⟨C.bf,0,none⟩)
 |3=>.pointer (some ⟨C.bf,19,none⟩)
 |4=>C.ov
 |5=>.agg C.oc.cells.toArray
 |6=>.slice (some ⟨C.W0.heap.size,0,none⟩) 1 1
 |7=>γ.v'
 |8=>.pointer (some ⟨C.bf,0,none⟩)
 |9=>.pointer (some ⟨C.bf,19,none⟩)
 |_=>undef
abbrev bFk.app(C:bFk)(γ:bO7):Prop:=bNd C.W0 C.br C.bad C.n1 55 7 C.ov C.n C.xs C.oc.cells γ.v' C.W0 γ.w5
def bFk.G(C:bFk)(γ:bO7)(l:Array Bool)(W:World):Prop :=
 (¬ lP l 6->W=C.W0)/\(lP l 6->¬ lP l 7->W=C.W0.alloc (.cells C.oc.cells.toArray 55)) /\
 (lP l 7->C.app γ/\(¬ lP l 10->W = γ.w5)/\(lP l 10->W = γ.w5.setCell ⟨C.bf,19,none⟩ γ.v'))
structure bQq(C:bFk)(t0:Array Value):Prop where
 sz:t0.size=194
 t1:t0[1]?=some (.pointer (some ⟨C.bf,0,none⟩))
 t12:t0[12]?=some (.pointer (some ⟨C.bo,0,none⟩))
 kr:aP C.W0 C.br #[.bool C.bad] 96
 kf:aP C.W0 C.bf C.cs 29
 oc19:C.cs[19]?=some C.ov
 ko:aP C.W0 C.bo C.oc.cells.toArray 55
 own:C.W0.ownsRow C.n1 55 7 C.ov C.n C.xs
 hb:C.n1<=C.W0.heap.size
 hn:C.n<=10000000
theorem bIu{o:Oper}{a:Act}{w:World}{x y:Nat}(ho:o.op=.store 27 (.tmp x) (.tmp y)){b:Nat}(hx:a.tmps[x]?=some (.pointer (some ⟨b,19,none⟩))){v:Value}(hy:a.tmps[y]?=some v){base e s m:Nat}{xs:List Value}{wr:World}(hv:wr.ownsRow base e s v m xs){T:TypeId}{cs:Array Value}{u:Value}(hb:aP w b cs T)(hu:cs[19]?=some u):
  (execOp a.eval o).run prog w=.ok .skip (w.setCell ⟨b,19,none⟩ v):=by
 have h1:w.cell? ⟨b,19,none⟩=some u:=(hb.cell 19).trans hu;have h2:=aR hb.2 19;rcases hv.2 with⟨rfl,_⟩|⟨g,cap,cur,rfl,_⟩
 ·simp[execOp,ho,hx,hy,h1,h2,go_sem]
 ·simp[execOp,ho,hx,hy,h1,h2,go_sem]
theorem bUt(o:eJ):(prog.info? 55).map (·.size)=some o.cells.toArray.size:=by
 have h:(prog.info? 55).map (·.size)=some 7:=by kernel_rfl
 rw[h];rfl
section
variable {C:bFk}{t0:Array Value}{Q:Exit->Act->World->Prop}{l:Array Bool}{w:World}
theorem bFk.keep{γ:bO7}{i:Nat}(h:C.G γ l w)(h6:i≠6)(h7:i≠7)(h10:i≠10):C.G γ (l.setIfInBounds i true) w:=by
 obtain⟨k1,k2,k3⟩:=h;refine⟨fun h'=>k1 (fun g=>h' (fH g)),fun h' h''=>k2 (mQ h' (Ne.symm h6)) (fun g=>h'' (fH g)),fun h'=>?_⟩;obtain⟨a1,a2,a3⟩:=k3 (mQ h' (Ne.symm h7));exact⟨a1,fun h''=>a2 (fun g=>h'' (fH g)),fun h''=>a3 (mQ h'' (Ne.symm h10))⟩
theorem bFk.below{γ:bO7}(h:C.G γ l w)(h7:¬ lP l 7):Below C.W0.heap.size C.W0 w:=by
 by_cases h6:lP l 6
 ·rw[h.2.1 h6 h7];exact aB _ _
 ·rw[h.1 h6];exact Br _ _
theorem bFq(M:bQq C t0){a:Act}(hdf:a.defers=[])(ht:a.tmps=t0)(hw:w.drewN 1=C.W0)
  (hQ:∀ γ,C.app γ->Q .normal { tmps:=iZ (C.val γ) bIl t0,defers:=[] } (γ.w5.setCell ⟨C.bf,19,none⟩ γ.v')):(Code.region 39 bJe true).wp prog Q a w:=by
 obtain⟨i0,hi0,hz0,hz1,hz2⟩:=info_parts bNs;have hsz:bJe.size=11:=by kernel_rfl
 have hone:∀u,u∈C.oc.cells->u.oneCell'=true:=by
  intro u hu;unfold eJ.cells at hu;simp only[List.mem_cons,List.not_mem_nil,or_false] at hu;rcases hu with rfl|rfl|rfl|rfl|rfl|rfl|rfl <;> rfl
 have hbs:∀u,¬ lP (Array.replicate bJe.size false) u:=fun u=>Gu _ u
 refine eV (ds:=bIl) (val:=C.val) (G:=C.G) (by kernel_rfl) (by kernel_rfl) (by decide) (fun p hp=>?_) (by kernel_rfl) ?_ (γ:=⟨.bool false,w⟩) hdf ht (by rw[hw];exact⟨fun _=>rfl,fun h=>absurd h (hbs _),fun h=>absurd h (hbs _)⟩) ?_
 ·rw[M.sz];have:∀p,p∈bIl->p.2<194:=by decide
  exact this p hp
 ·intro γ l a w i H hr;have hi:i<11:=by
   obtain⟨_,o,ho,_⟩:=mem_ready.1 hr;have:=(Ai.1 ho).1;rw[hsz] at this;exact this
  have t1:=H.low (s:=1) (by decide) M.t1;have t12:=H.low (s:=12) (by decide) M.t12;have hno:=bDz hr
  match i,hi,hr with
  |0,_,hr=>exact aWj (.move (.tmp 1)) (.pointer (some ⟨C.bf,0,none⟩)) (fun o h=>by simp[execOp,h,t1,go_sem]) (bFk.keep H.g (by decide) (by decide) (by decide))
  |1,_,hr=>exact aWj (.move (.tmp 1)) (.pointer (some ⟨C.bf,0,none⟩)) (fun o h=>by simp[execOp,h,t1,go_sem]) (bFk.keep H.g (by decide) (by decide) (by decide))
  |2,_,hr =>
   have v1:a.tmps[184]?=some (.pointer (some ⟨C.bf,0,none⟩)):=H.dep hr 1 184;exact aWj (.nilCheck (.tmp 184)) (.pointer (some ⟨C.bf,0,none⟩)) (fun o h=>by simp[execOp,h,v1,go_sem]) (bFk.keep H.g (by decide) (by decide) (by decide))
  |3,_,hr =>
   have v2:a.tmps[185]?=some (.pointer (some ⟨C.bf,0,none⟩)):=H.dep hr 2 185;exact aWj (.fieldAddr 29 (.tmp 185) 16) (.pointer (some ⟨C.bf,19,none⟩)) (fun o h=>by simp[execOp,h,v2,go_sem]) (bFk.keep H.g (by decide) (by decide) (by decide))
  |4,_,hr =>
   have v3:a.tmps[186]?=some (.pointer (some ⟨C.bf,19,none⟩)):=H.dep hr 3 186;have h7:¬ lP l 7:=fun h=>hno (H.back13 7 4 (by kernel_rfl) h)
   have c0:=((M.kf.below (bFk.below H.g h7)).cell 19).trans M.oc19;exact aWj (.load 27 (.tmp 186)) (C.ov) (fun o h=>by simp[execOp,h,v3,c0,go_sem]) (bFk.keep H.g (by decide) (by decide) (by decide))
  |5,_,hr =>
   have h6:¬ lP l 6:=fun h=>hno (H.back13 6 5 (by kernel_rfl) h)
   have hW:=H.g.1 h6;subst hW;exact aWj (.load 55 (.tmp 12)) (.agg C.oc.cells.toArray) (fun o h=>aW h (ev' t12) (gR M.ko) underlying55 rfl (bUt _)) (bFk.keep H.g (by decide) (by decide) (by decide))
  |6,_,hr =>
   have v5:a.tmps[188]?=some (.agg C.oc.cells.toArray):=H.dep hr 5 188;have h7:¬ lP l 7:=fun h=>hno (H.back13 7 6 (by kernel_rfl) h)
   have hW:=H.g.1 hno;subst hW;refine aLg (X:=.buildSlice 27 1 #[(0,.tmp 188)]) (v:=.slice (some ⟨C.W0.heap.size,0,none⟩) 1 1) (w':=C.W0.alloc (.cells C.oc.cells.toArray 55)) γ (fun _ _=>rfl) (by kernel_rfl) (fun o h=>by unfold eJ.cells at v5 ⊢;simp[execOp,h,v5,go_sem]) rfl ⟨fun h=>absurd (zE (by rw[H.sz,hsz];decide)) h,fun _ _=>rfl,fun h=>absurd (mQ h (by decide)) h7⟩
  |7,_,hr =>
   have v4:a.tmps[187]?=some C.ov:=H.dep hr 4 187;have v6:a.tmps[189]?=some (.slice (some ⟨C.W0.heap.size,0,none⟩) 1 1):=H.dep hr 6 189;have o6:lP l 6:=aG hr (by kernel_rfl);have h10:¬ lP l 10:=fun h=>hno (H.back13 10 7 (by kernel_rfl) h)
   have hW:=H.g.2.1 o6 hno;subst hW;have hown:=M.own.alloc (.cells C.oc.cells.toArray 55);have hX:(bJe[7]?).map (fun o=>(o.op,o.guard))=some (.call { callee:=.builtin .append,args:=#[.tmp 187,.tmp 189],argTypes:=#[27,27] },none):=by kernel_rfl
   cases ho:bJe[7]? with
   |none=>rw[ho] at hX;cases hX
   |some o =>
    rw[ho] at hX;simp only[Option.map_some,Option.some.injEq,Prod.mk.injEq] at hX;obtain⟨v',w',hrun,h2,h3,_,h5⟩:=run_append_own_at (P:=prog) (C.W0.alloc (.cells C.oc.cells.toArray 55)) C.n1 27 o.type 55 i0 _ 7 112 underlying27 hi0 hz0 hz1 hz2 rfl (by decide) C.ov C.n C.xs hown ⟨C.W0.heap.size,0,none⟩ 1 1 C.oc.cells rfl (fun j u hj=>aUb C.W0 C.oc.cells.toArray _ j u (by simpa using hj)) hone (by have:=M.hn;unfold maxLen;omega) (by have:=M.hn;omega) (by rw[World.size_alloc];have:=M.hb;omega);refine bU ho hX.2 ?_;have e1:(execOp a.eval o).run prog (C.W0.alloc (.cells C.oc.cells.toArray 55))=.ok (.value v') w':=by
     simp[execOp,hX.1,resolve,invoke,builtin,Act.eval,v4,v6,hrun,Result.andThen]
    unfold Oper.wp;rw[e1];refine⟨o,v',⟨v',w'⟩,ho,rfl,rfl,fun j hj=>?_,fun h=>absurd (fH o6) h,fun _ h=>absurd (zE (by rw[H.sz,hsz];decide)) h,fun _=>⟨⟨aZf.refl _ _,M.kr,h2,h3,by rw[World.size_alloc] at h5;exact h5⟩,fun _=>rfl,fun h=>absurd (mQ h (by decide)) h10⟩⟩
    match j,hj with
    |7,hj=>exact absurd hj hno
    |0,_|1,_|2,_|3,_|4,_|5,_|6,_|8,_|9,_=>rfl
    |_+10,_=>rfl
  |8,_,hr =>
   have v0:a.tmps[183]?=some (.pointer (some ⟨C.bf,0,none⟩)):=H.dep hr 0 183;exact aWj (.nilCheck (.tmp 183)) (.pointer (some ⟨C.bf,0,none⟩)) (fun o h=>by simp[execOp,h,v0,go_sem]) (bFk.keep H.g (by decide) (by decide) (by decide))
  |9,_,hr =>
   have v8:a.tmps[191]?=some (.pointer (some ⟨C.bf,0,none⟩)):=H.dep hr 8 191;exact aWj (.fieldAddr 29 (.tmp 191) 16) (.pointer (some ⟨C.bf,19,none⟩)) (fun o h=>by simp[execOp,h,v8,go_sem]) (bFk.keep H.g (by decide) (by decide) (by decide))
  |10,_,hr =>
   have v7:a.tmps[190]?=some γ.v':=H.dep hr 7 190;have v9:a.tmps[192]?=some (.pointer (some ⟨C.bf,19,none⟩)):=H.dep hr 9 192;have o7:lP l 7:=aG hr (by kernel_rfl);obtain⟨ap,hW,_⟩:=H.g.2.2 o7;have hW:=hW hno;subst hW;have hbx:aP γ.w5 C.bf C.cs 29:=by
    have h1:=M.kf.below (aB C.W0 (.cells C.oc.cells.toArray 55));have h2:=M.own.alloc (.cells C.oc.cells.toArray 55);exact⟨Nat.lt_of_lt_of_le h1.1 ap.gr.size,(ap.gr.block C.bf h1.1 (fun e=>bC0 h1 (by decide) h2 e.symm)).trans h1.2⟩
   exact aH0 (X:=.store 27 (.tmp 192) (.tmp 190)) (by kernel_rfl) (fun o h=>bIu h v9 v7 ap.own hbx M.oc19) ⟨fun h=>absurd (fH (H.back13 7 6 (by kernel_rfl) o7)) h,fun _ h=>absurd (fH o7) h,fun _=>⟨ap,fun h=>absurd (zE (by rw[H.sz,hsz];decide)) h,fun _=>rfl⟩⟩
  |n+11,h,_=>exact absurd h (by omega)
 ·rintro γ l W hall ⟨k1,k2,k3⟩;have hn:∀j,j<11->lP l j:=fun j hj=>hall j (by rw[hsz];exact hj)
  obtain⟨ap,_,hW⟩:=k3 (hn 7 (by decide));obtain rfl:=hW (hn 10 (by decide));exact hQ γ ap
end
noncomputable def bL5:Array Oper:=(f129.body.bind (jE 35)).getD #[]
def bM8:List (Nat×Nat):=[(0,148),(1,149),(2,150),(3,151),(4,152),(5,153),(6,154),(7,155),(8,156),(9,157),(10,158),(11,159),(12,160),(13,161),(14,162),(15,163),(16,164),(17,165),(18,166),(19,12)]
structure bE2 where
 W0:World
 br:Nat
 bl:Nat
 bad:Bool
 b1:Bool
 b2:Bool
 b3:Bool
 x0:ByteArray
 x1:ByteArray
 x2:ByteArray
 x3:ByteArray
 rn:ByteArray
 rd:ByteArray
 pn:ByteArray
 pd:ByteArray
 vn:ByteArray
 vd:ByteArray
def bE2.oc(C:bE2):Array Value:=#[.string C.x0,.string C.rn,.string C.rd,.string C.pn,.string C.pd,.string C.vn,.string C.vd]
def bE2.val(C:bE2)(γ:Nat):Nat->Value
 |0=>.slice (some ⟨C.bl,0,none⟩) 4 4
 |1=>.pointer (some ⟨C.bl,0,none⟩)
 |2=>.string C.x0
 |3=>.pointer (some ⟨C.br,0,none⟩)
 |4=>.slice (some ⟨C.bl,0,none⟩) 4 4
 |5=>.pointer (some ⟨C.bl,1,none⟩)
 |6=>.string C.x1
 |7=>.agg #[.string C.rn,.string C.rd]
 |8=>.pointer (some ⟨C.br,0,none⟩)
 |9=>.slice (some ⟨C.bl,0,none⟩) 4 4
 |10=>.pointer (some ⟨C.bl,2,none⟩)
 |11=>.string C.x2
 |12=>.agg #[.string C.pn,.string C.pd]
 |13=>.pointer (some ⟨C.br,0,none⟩)
 |14=>.slice (some ⟨C.bl,0,none⟩) 4 4
 |15=>.pointer (some ⟨C.bl,3,none⟩)
 |16=>.string C.x3
 |17=>.agg #[.string C.vn,.string C.vd]
 |18=>.agg C.oc
 |19=>.pointer (some ⟨γ,0,none⟩)
 |_=>undef
structure bE2.G(C:bE2)(γ:Nat)(l:Array Bool)(W:World):Prop where
 wr:aZf (· = C.br) C.W0 W
 m3:lP l 17->aP W C.br #[.bool C.b3] 96
 m2:lP l 12->¬ lP l 17->aP W C.br #[.bool C.b2] 96
 m1:lP l 7->¬ lP l 12->aP W C.br #[.bool C.b1] 96
 m0:¬ lP l 7->aP W C.br #[.bool C.bad] 96
 bx:lP l 19->C.W0.heap.size<=γ/\∃u:Array Value,u.size=7/\aP W γ u 55/\(lP l 20->u=C.oc)
structure bQr(C:bE2)(t0:Array Value):Prop where
 sz:t0.size=194
 tz:t0[0]?=some (.pointer (some ⟨C.br,0,none⟩))
 t11:t0[11]?=some (.slice (some ⟨C.bl,0,none⟩) 4 4)
 kr:aP C.W0 C.br #[.bool C.bad] 96
 kl:aP C.W0 C.bl #[.string C.x0,.string C.x1,.string C.x2,.string C.x3] 9
 h1:∀W,aZf (· = C.br) C.W0 W->aP W C.br #[.bool C.bad] 96->Calls prog 190 #[.pointer (some ⟨C.br,0,none⟩),.string C.x1] W fun e w'=>e=.returned (.agg #[.string C.rn,.string C.rd])/\aZf (· = C.br) W w'/\aP w' C.br #[.bool C.b1] 96
 h2:∀W,aZf (· = C.br) C.W0 W->aP W C.br #[.bool C.b1] 96->Calls prog 190 #[.pointer (some ⟨C.br,0,none⟩),.string C.x2] W fun e w'=>e=.returned (.agg #[.string C.pn,.string C.pd])/\aZf (· = C.br) W w'/\aP w' C.br #[.bool C.b2] 96
 h3:∀W,aZf (· = C.br) C.W0 W->aP W C.br #[.bool C.b2] 96->Calls prog 190 #[.pointer (some ⟨C.br,0,none⟩),.string C.x3] W fun e w'=>e=.returned (.agg #[.string C.vn,.string C.vd])/\aZf (· = C.br) W w'/\aP w' C.br #[.bool C.b3] 96
section
variable {C:bE2}{t0:Array Value}{Q:Exit->Act->World->Prop}{l:Array Bool}{w:World}
theorem bE2.keep{γ:Nat}{i:Nat}(h:C.G γ l w)(h7:i≠7)(h12:i≠12)(h17:i≠17)(h19:i≠19)(h20:i≠20):C.G γ (l.setIfInBounds i true) w :=
 ⟨h.wr,fun h'=>h.m3 (mQ h' (Ne.symm h17)),fun h' h''=>h.m2 (mQ h' (Ne.symm h12)) (fun g=>h'' (fH g)),fun h' h''=>h.m1 (mQ h' (Ne.symm h7)) (fun g=>h'' (fH g)),fun h'=>h.m0 (fun g=>h' (fH g)),fun h'=>by
  obtain⟨c,u,a1,a2,a3⟩:=h.bx (mQ h' (Ne.symm h19));exact⟨c,u,a1,a2,fun h''=>a3 (mQ h'' (Ne.symm h20))⟩⟩
theorem bL4(M:bQr C t0){a:Act}(hdf:a.defers=[])(ht:a.tmps=t0)(hw:w.drewN 1=C.W0)
  (hQ:∀ γ W,C.W0.heap.size<=γ->aZf (· = C.br) C.W0 W->aP W C.br #[.bool C.b3] 96->aP W γ C.oc 55->Q .normal { tmps:=iZ (C.val γ) bM8 t0,defers:=[] } W):(Code.region 35 bL5 true).wp prog Q a w:=by
 have hsz:bL5.size=21:=by kernel_rfl
 have hnl:¬ C.bl=C.br:=fun e=>bDt M.kl M.kr (by decide) e
 have hbs:∀u,¬ lP (Array.replicate bL5.size false) u:=fun u=>Gu _ u
 refine eV (ds:=bM8) (val:=C.val) (G:=C.G) (by kernel_rfl) (by kernel_rfl) (by decide) (fun p hp=>?_) (by kernel_rfl) ?_ (γ:=0) hdf ht (by rw[hw];exact⟨aZf.refl _ _,fun h=>absurd h (hbs _),fun h=>absurd h (hbs _),fun h=>absurd h (hbs _),fun _=>M.kr,fun h=>absurd h (hbs _)⟩) ?_
 ·rw[M.sz];have:∀p,p∈bM8->p.2<194:=by decide
  exact this p hp
 ·intro γ l a w i H hr;have hi:i<21:=by
   obtain⟨_,o,ho,_⟩:=mem_ready.1 hr;have:=(Ai.1 ho).1;rw[hsz] at this;exact this
  have tz:=H.low (s:=0) (by decide) M.tz;have t11:=H.low (s:=11) (by decide) M.t11;have hno:=bDz hr;have KL:=H.g.wr.box M.kl hnl
  match i,hi,hr with
  |0,_,hr=>exact aWj (.move (.tmp 11)) (.slice (some ⟨C.bl,0,none⟩) 4 4) (fun o h=>by simp[execOp,h,t11,go_sem]) (bE2.keep H.g (by decide) (by decide) (by decide) (by decide) (by decide))
  |1,_,hr =>
   have v0:a.tmps[148]?=some (.slice (some ⟨C.bl,0,none⟩) 4 4):=H.dep hr 0 148;exact aWj (.indexAddr 36 (.tmp 148) (.const (.int .i64 0))) (.pointer (some ⟨C.bl,0,none⟩)) (fun o h=>by simp[execOp,h,v0,go_sem]) (bE2.keep H.g (by decide) (by decide) (by decide) (by decide) (by decide))
  |2,_,hr =>
   have v1:a.tmps[149]?=some (.pointer (some ⟨C.bl,0,none⟩)):=H.dep hr 1 149;have c0:=KL.cell 0;exact aWj (.load 9 (.tmp 149)) (.string C.x0) (fun o h=>by simp[execOp,h,v1,c0,go_sem]) (bE2.keep H.g (by decide) (by decide) (by decide) (by decide) (by decide))
  |3,_,hr=>exact aWj (.move (.tmp 0)) (.pointer (some ⟨C.br,0,none⟩)) (fun o h=>by simp[execOp,h,tz,go_sem]) (bE2.keep H.g (by decide) (by decide) (by decide) (by decide) (by decide))
  |4,_,hr=>exact aWj (.move (.tmp 11)) (.slice (some ⟨C.bl,0,none⟩) 4 4) (fun o h=>by simp[execOp,h,t11,go_sem]) (bE2.keep H.g (by decide) (by decide) (by decide) (by decide) (by decide))
  |5,_,hr =>
   have v4:a.tmps[152]?=some (.slice (some ⟨C.bl,0,none⟩) 4 4):=H.dep hr 4 152;exact aWj (.indexAddr 36 (.tmp 152) (.const (.int .i64 1))) (.pointer (some ⟨C.bl,1,none⟩)) (fun o h=>by simp[execOp,h,v4,go_sem]) (bE2.keep H.g (by decide) (by decide) (by decide) (by decide) (by decide))
  |6,_,hr =>
   have v5:a.tmps[153]?=some (.pointer (some ⟨C.bl,1,none⟩)):=H.dep hr 5 153;have c0:=KL.cell 1;exact aWj (.load 9 (.tmp 153)) (.string C.x1) (fun o h=>by simp[execOp,h,v5,c0,go_sem]) (bE2.keep H.g (by decide) (by decide) (by decide) (by decide) (by decide))
  |7,_,hr =>
   have v3:a.tmps[151]?=some (.pointer (some ⟨C.br,0,none⟩)):=H.dep hr 3 151;have v6:a.tmps[154]?=some (.string C.x1):=H.dep hr 6 154;have h12:¬ lP l 12:=fun h=>hno (H.back13 12 7 (by kernel_rfl) h)
   have h17:¬ lP l 17:=fun h=>h12 (H.back13 17 12 (by kernel_rfl) h)
   refine gA (f:=190) (lb:=#[]) (c:=.func 190) (args:=#[.tmp 151,.tmp 154]) (ts:=#[147,9]) (vs:=#[.pointer (some ⟨C.br,0,none⟩),.string C.x1]) (by kernel_rfl) rfl (aXb func190) (by simp[Act.eval,v3,v6]) ((M.h1 w H.g.wr (H.g.m0 hno)).mono ?_);rintro e w' ⟨rfl,hw',hb'⟩;refine⟨_,γ,rfl,rfl,fun _ _=>rfl,H.g.wr.trans hw',fun h=>absurd (mQ h (by decide)) h17,fun h=>absurd (mQ h (by decide)) h12,fun _ _=>hb',fun h=>absurd (zE (by rw[H.sz,hsz];decide)) h,fun h=>?_⟩;obtain⟨c,u,a1,a2,a3⟩:=H.g.bx (mQ h (by decide));exact⟨c,u,a1,hw'.box a2 (fun e=>bDt a2 (H.g.m0 hno) (by decide) e),fun h''=>a3 (mQ h'' (by decide))⟩
  |8,_,hr=>exact aWj (.move (.tmp 0)) (.pointer (some ⟨C.br,0,none⟩)) (fun o h=>by simp[execOp,h,tz,go_sem]) (bE2.keep H.g (by decide) (by decide) (by decide) (by decide) (by decide))
  |9,_,hr=>exact aWj (.move (.tmp 11)) (.slice (some ⟨C.bl,0,none⟩) 4 4) (fun o h=>by simp[execOp,h,t11,go_sem]) (bE2.keep H.g (by decide) (by decide) (by decide) (by decide) (by decide))
  |10,_,hr =>
   have v9:a.tmps[157]?=some (.slice (some ⟨C.bl,0,none⟩) 4 4):=H.dep hr 9 157;exact aWj (.indexAddr 36 (.tmp 157) (.const (.int .i64 2))) (.pointer (some ⟨C.bl,2,none⟩)) (fun o h=>by simp[execOp,h,v9,go_sem]) (bE2.keep H.g (by decide) (by decide) (by decide) (by decide) (by decide))
  |11,_,hr =>
   have v10:a.tmps[158]?=some (.pointer (some ⟨C.bl,2,none⟩)):=H.dep hr 10 158;have c0:=KL.cell 2;exact aWj (.load 9 (.tmp 158)) (.string C.x2) (fun o h=>by simp[execOp,h,v10,c0,go_sem]) (bE2.keep H.g (by decide) (by decide) (by decide) (by decide) (by decide))
  |12,_,hr =>
   have v8:a.tmps[156]?=some (.pointer (some ⟨C.br,0,none⟩)):=H.dep hr 8 156;have v11:a.tmps[159]?=some (.string C.x2):=H.dep hr 11 159;have o7:lP l 7:=aG hr (by kernel_rfl);have h17:¬ lP l 17:=fun h=>hno (H.back13 17 12 (by kernel_rfl) h)
   refine gA (f:=190) (lb:=#[]) (c:=.func 190) (args:=#[.tmp 156,.tmp 159]) (ts:=#[147,9]) (vs:=#[.pointer (some ⟨C.br,0,none⟩),.string C.x2]) (by kernel_rfl) rfl (aXb func190) (by simp[Act.eval,v8,v11]) ((M.h2 w H.g.wr (H.g.m1 o7 hno)).mono ?_);rintro e w' ⟨rfl,hw',hb'⟩;refine⟨_,γ,rfl,rfl,fun _ _=>rfl,H.g.wr.trans hw',fun h=>absurd (mQ h (by decide)) h17,fun _ _=>hb',fun _ h=>absurd (zE (by rw[H.sz,hsz];decide)) h,fun h=>absurd (fH o7) h,fun h=>?_⟩;obtain⟨c,u,a1,a2,a3⟩:=H.g.bx (mQ h (by decide));exact⟨c,u,a1,hw'.box a2 (fun e=>bDt a2 (H.g.m1 o7 hno) (by decide) e),fun h''=>a3 (mQ h'' (by decide))⟩
  |13,_,hr=>exact aWj (.move (.tmp 0)) (.pointer (some ⟨C.br,0,none⟩)) (fun o h=>by simp[execOp,h,tz,go_sem]) (bE2.keep H.g (by decide) (by decide) (by decide) (by decide) (by decide))
  |14,_,hr=>exact aWj (.move (.tmp 11)) (.slice (some ⟨C.bl,0,none⟩) 4 4) (fun o h=>by simp[execOp,h,t11,go_sem]) (bE2.keep H.g (by decide) (by decide) (by decide) (by decide) (by decide))
  |15,_,hr =>
   have v14:a.tmps[162]?=some (.slice (some ⟨C.bl,0,none⟩) 4 4):=H.dep hr 14 162;exact aWj (.indexAddr 36 (.tmp 162) (.const (.int .i64 3))) (.pointer (some ⟨C.bl,3,none⟩)) (fun o h=>by simp[execOp,h,v14,go_sem]) (bE2.keep H.g (by decide) (by decide) (by decide) (by decide) (by decide))
  |16,_,hr =>
   have v15:a.tmps[163]?=some (.pointer (some ⟨C.bl,3,none⟩)):=H.dep hr 15 163;have c0:=KL.cell 3;exact aWj (.load 9 (.tmp 163)) (.string C.x3) (fun o h=>by simp[execOp,h,v15,c0,go_sem]) (bE2.keep H.g (by decide) (by decide) (by decide) (by decide) (by decide))
  |17,_,hr =>
   have v13:a.tmps[161]?=some (.pointer (some ⟨C.br,0,none⟩)):=H.dep hr 13 161;have v16:a.tmps[164]?=some (.string C.x3):=H.dep hr 16 164;have o12:lP l 12:=aG hr (by kernel_rfl);have o7:lP l 7:=H.back13 12 7 (by kernel_rfl) o12;refine gA (f:=190) (lb:=#[]) (c:=.func 190) (args:=#[.tmp 161,.tmp 164]) (ts:=#[147,9]) (vs:=#[.pointer (some ⟨C.br,0,none⟩),.string C.x3]) (by kernel_rfl) rfl (aXb func190) (by simp[Act.eval,v13,v16]) ((M.h3 w H.g.wr (H.g.m2 o12 hno)).mono ?_);rintro e w' ⟨rfl,hw',hb'⟩;refine⟨_,γ,rfl,rfl,fun _ _=>rfl,H.g.wr.trans hw',fun _=>hb',fun _ h=>absurd (zE (by rw[H.sz,hsz];decide)) h,fun _ h=>absurd (fH o12) h,fun h=>absurd (fH o7) h,fun h=>?_⟩;obtain⟨c,u,a1,a2,a3⟩:=H.g.bx (mQ h (by decide));exact⟨c,u,a1,hw'.box a2 (fun e=>bDt a2 (H.g.m2 o12 hno) (by decide) e),fun h''=>a3 (mQ h'' (by decide))⟩
  |18,_,hr =>
   have v2:a.tmps[150]?=some (.string C.x0):=H.dep hr 2 150;have v7:a.tmps[155]?=some (.agg #[.string C.rn,.string C.rd]):=H.dep hr 7 155;have v12:a.tmps[160]?=some (.agg #[.string C.pn,.string C.pd]):=H.dep hr 12 160;have v17:a.tmps[165]?=some (.agg #[.string C.vn,.string C.vd]):=H.dep hr 17 165;exact aWj (.build 55 #[(0,.tmp 150),(1,.tmp 155),(2,.tmp 160),(3,.tmp 165)]) (.agg C.oc) (fun o h=>by simp[execOp,h,v2,v7,v12,v17,go_sem,bE2.oc]) (bE2.keep H.g (by decide) (by decide) (by decide) (by decide) (by decide))
  |19,_,hr =>
   have h20:¬ lP l 20:=fun h=>hno (H.back13 20 19 (by kernel_rfl) h)
   have hbA:=aB w (.cells #[.string ⟨#[]⟩,.string ⟨#[]⟩,.string ⟨#[]⟩,.string ⟨#[]⟩,.string ⟨#[]⟩,.string ⟨#[]⟩,.string ⟨#[]⟩] 55);refine aLg (X:=.alloc 55) (v:=.pointer (some ⟨w.heap.size,0,none⟩)) (w':=w.alloc (.cells #[.string ⟨#[]⟩,.string ⟨#[]⟩,.string ⟨#[]⟩,.string ⟨#[]⟩,.string ⟨#[]⟩,.string ⟨#[]⟩,.string ⟨#[]⟩] 55)) w.heap.size (fun j hj=>?_) (by kernel_rfl) (fun o h=>by simp[execOp,h,go_sem]) rfl ⟨H.g.wr.then_below hbA,fun h=>(H.g.m3 (mQ h (by decide))).below hbA,fun h h'=>(H.g.m2 (mQ h (by decide)) (fun g=>h' (fH g))).below hbA,fun h h'=>(H.g.m1 (mQ h (by decide)) (fun g=>h' (fH g))).below hbA,fun h=>(H.g.m0 (fun g=>h (fH g))).below hbA,fun _=>⟨H.g.wr.size,_,rfl,aP.new0 w _ _,fun h=>absurd (mQ h (by decide)) h20⟩⟩
   match j,hj with
   |19,hj=>exact absurd hj hno
   |0,_|1,_|2,_|3,_|4,_|5,_|6,_|7,_|8,_|9,_|10,_|11,_|12,_|13,_|14,_|15,_|16,_|17,_|18,_=>rfl
   |_+20,_=>rfl
  |20,_,hr =>
   have v18:a.tmps[166]?=some (.agg C.oc):=H.dep hr 18 166;have v19:a.tmps[12]?=some (.pointer (some ⟨γ,0,none⟩)):=H.dep hr 19 12;have o19:lP l 19:=aG hr (by kernel_rfl);have o17:lP l 17:=H.back13 18 17 (by kernel_rfl) (aG hr (by kernel_rfl));have o12:lP l 12:=H.back13 17 12 (by kernel_rfl) o17;have o7:lP l 7:=H.back13 12 7 (by kernel_rfl) o12;obtain⟨c,u,a1,a2,a3⟩:=H.g.bx o19;have hne:C.br ≠ γ:=bDt (H.g.m3 o17) a2 (by decide);exact aH0 (X:=.store 55 (.tmp 12) (.tmp 166)) (by kernel_rfl) (fun o h=>Bi h (ev' v19) (ev' v18) a2 (by show (prog.info? 55).map (·.size)=some 7;kernel_rfl) (by rw[a1];rfl) (by simp[bE2.oc,Value.oneCell'])) ⟨H.g.wr.step (S':=fun k=>k = γ) (aZf.weaken (aZf.of_row w γ C.oc) (fun k h=>h)) (fun k hk=>.inr (by rw[hk];exact c)),fun _=>pM (H.g.m3 o17) hne,fun _ h=>absurd (fH o17) h,fun _ h=>absurd (fH o12) h,fun h=>absurd (fH o7) h,fun _=>⟨c,_,rfl,Ip a2,fun _=>rfl⟩⟩
  |n+21,h,_=>exact absurd h (by omega)
 ·rintro γ l W hall hG;have hn:∀j,j<21->lP l j:=fun j hj=>hall j (by rw[hsz];exact hj)
  obtain⟨c,u,a1,a2,a3⟩:=hG.bx (hn 19 (by decide));obtain rfl:=a3 (hn 20 (by decide));exact hQ γ W c hG.wr (hG.m3 (hn 17 (by decide))) a2
end
end
end Go.Proofs.YthjekgfoidmagaaGreatDoor
