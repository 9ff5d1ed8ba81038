/- RowF RSame -/
import Derived.Test.YtbcebibkpfklnaaGreatDoorJMem
import Derived.Test.YtbcebibkpfklnaaGreatDoorJLog
import Derived.Test.YtbcebibkpfklnaaGreatDoorJOpen
import Derived.Lib.AppendZeros
import Derived.StillTailTactics
set_option maxHeartbeats 16000000
set_option maxRecDepth 100000
namespace Go.Proofs.YtbcebibkpfklnaaGreatDoor
section
open Go Go.RowKit Num
theorem Ib{N:Nat}{css:List (List Value)}(h:∀cs,cs∈css→cs.length=N):css.flatten.length=css.length*N:=by
 induction css with
 |nil=>simp
 |cons c r ih =>
  have h1:=ih (fun cs hcs=>h cs (List.mem_cons_of_mem _ hcs));have h2:=h c (List.mem_cons_self ..);rw[List.flatten_cons,List.length_append,h1,h2,List.length_cons,Nat.succ_mul];omega
theorem xE{N:Nat}:∀ {css:List (List Value)},(∀cs,cs∈css→cs.length=N)→∀(k:Nat) (cs:List Value) (j:Nat),css[k]?=some cs→j<N→css.flatten[k*N+j]?=cs[j]?
 | [],_,k,cs,j,h,_=>by simp at h
 |y::r,hh,0,cs,j,h,hj=>by
  simp at h;subst h;have h2:=hh y (List.mem_cons_self ..);rw[List.flatten_cons,Nat.zero_mul,Nat.zero_add,List.getElem?_append_left (by omega)]
 |y::r,hh,k+1,cs,j,h,hj=>by
  have ih:=xE (fun cs hcs=>hh cs (List.mem_cons_of_mem _ hcs)) k cs j (by simpa using h) hj;have h2:=hh y (List.mem_cons_self ..);have e:(k+1)*N+j=N+(k*N+j):=by rw[Nat.succ_mul];omega
  rw[List.flatten_cons,List.getElem?_append_right (by omega),h2,e,Nat.add_sub_cancel_left];exact ih
theorem oY{N:Nat}(hN:0<N){w:World}{a:Option Addr}{css:List (List Value)}(hh:∀cs,cs∈css→cs.length=N)(h:dT w a css.flatten):gJ w a N css:=by
 by_cases h0:css=[]
 ·exact .inl h0
 ·obtain⟨b,off,ha,hlt,hc⟩:=h.addr (by
   intro e;have h1:=Ib hh;rw[e] at h1;have h2:css.length≠0:=by simpa using h0
   have h3:css.length*N=0:=h1.symm;rcases Nat.mul_eq_zero.1 h3 with h|h <;> omega)
  refine .inr ⟨b,off,ha,hlt,fun k cs hk j v hv=>?_⟩;have hl:=hh cs (List.mem_of_getElem? hk);have hj:j<N:=by have:=(Li.1 hv).1;omega
  rw[Nat.add_assoc];exact hc _ v (by rw[xE hh k cs j hk hj];exact hv)
def pX(xs:List aF):List Value:=(xs.map aF.cells).flatten
theorem Fa{xs:List aF}:∀cs,cs∈xs.map aF.cells→cs.length=21:=by
 intro cs h;obtain⟨x,_,rfl⟩:=List.mem_map.1 h;rfl
theorem Ei(xs ys:List aF):pX (xs++ys)=pX xs++pX ys:=by simp[pX]
theorem Qy(x:aF):pX [x]=x.arr.toList:=by simp[pX,aF.cells]
theorem Ad{w:World}{base:Nat}{v:Value}{xs:List aF}(h:w.ownsRow base 30 21 v xs.length (pX xs))(hb:∀x,x∈xs→x.f.Behind w x.pa x.oa):∃a c,v=.slice a xs.length c∧fS w a xs∧xs.length≤c:=by
 obtain⟨a,c,rfl,hr⟩:=gK h;refine⟨a,c,rfl,⟨oY (by decide) Fa hr,hb⟩,?_⟩;obtain⟨_,⟨h1,h2⟩|⟨g,cap,cur,h1,_,_,h2,_⟩⟩:=h
 ·omega
 ·injection h1 with _ _ h3
  omega
def aAh:Value:=.agg #[.string ⟨#[]⟩,.int .i64 0,.bool false,.int .i64 0,.int .i64 0,.string ⟨#[]⟩,.string ⟨#[]⟩,.string ⟨#[]⟩,.string ⟨#[]⟩,.string ⟨#[]⟩,.string ⟨#[]⟩,.string ⟨#[]⟩,.string ⟨#[]⟩,.string ⟨#[]⟩,.string ⟨#[]⟩,.string ⟨#[]⟩,.string ⟨#[]⟩,.string ⟨#[]⟩,.slice none 0 0,.slice none 0 0,.int .i64 0]
theorem Ul:(Tryz.prog.info? 30).map (fun i=>(i.zero,i.size,i.bytes))=some (some aAh,21,312):=by kernel_rfl
end
section
open Go Go.RowKit Num
theorem rK(f:aE)(pa oa pb ob:Option Addr)(pc oc pd od:Nat)(w:World)(hb1:f.Behind w pa oa)(hb2:f.Behind w pb ob)(hp:f.picks.length≤1000000)(ho:f.options.length≤1000000):
  Calls Tryz.prog 19 #[.agg (f.cells pa pc oa oc),.agg (f.cells pb pd ob od)] w fun e w'=>e=.returned (.bool true)∧Below w.heap.size w w':=by
 have KF:=((aP.new0 w (f.cells pa pc oa oc) 30).below (aB _ (.cells (f.cells pb pd ob od) 30)))
 have KG:=aP.new0 (w.alloc (.cells (f.cells pa pc oa oc) 30)) (f.cells pb pd ob od) 30;rw[World.size_alloc] at KG;have HB0:=Hd (((Br w.heap.size w).alloc (Nl _) (.cells (f.cells pa pc oa oc) 30)).alloc (by simp) (.cells (f.cells pb pd ob od) 30));have HP1:=Hd (hb1.below HB0.out);have HP2:=Hd (hb2.below HB0.out);clear hb1 hb2;have c0:=(KF.cell 0).trans (show _=some (.string ⟨f.key.toArray⟩) from rfl);have g0:=(KG.cell 0).trans (show _=some (.string ⟨f.key.toArray⟩) from rfl);have c1:=(KF.cell 1).trans (show _=some (.int .i64 f.stamp) from rfl);have g1:=(KG.cell 1).trans (show _=some (.int .i64 f.stamp) from rfl);have c2:=(KF.cell 2).trans (show _=some (.bool f.cancelled) from rfl);have g2:=(KG.cell 2).trans (show _=some (.bool f.cancelled) from rfl);have c3:=(KF.cell 3).trans (show _=some (.int .i64 f.day) from rfl);have g3:=(KG.cell 3).trans (show _=some (.int .i64 f.day) from rfl);have c4:=(KF.cell 4).trans (show _=some (.int .i64 f.kind) from rfl);have g4:=(KG.cell 4).trans (show _=some (.int .i64 f.kind) from rfl);have c5:=(KF.cell 5).trans (show _=some (.string ⟨f.ins.toArray⟩) from rfl);have g5:=(KG.cell 5).trans (show _=some (.string ⟨f.ins.toArray⟩) from rfl);have c6:=(KF.cell 6).trans (show _=some (.string ⟨f.other.toArray⟩) from rfl);have g6:=(KG.cell 6).trans (show _=some (.string ⟨f.other.toArray⟩) from rfl);have c7:=(KF.cell 7).trans (show _=some (.string ⟨f.cur.toArray⟩) from rfl);have g7:=(KG.cell 7).trans (show _=some (.string ⟨f.cur.toArray⟩) from rfl);have c8:=(KF.cell 8).trans (show _=some (.string ⟨f.target.toArray⟩) from rfl);have g8:=(KG.cell 8).trans (show _=some (.string ⟨f.target.toArray⟩) from rfl);have c9:=(KF.cell 9).trans (show _=some (.string ⟨f.q.toArray⟩) from rfl);have g9:=(KG.cell 9).trans (show _=some (.string ⟨f.q.toArray⟩) from rfl);have c10:=(KF.cell 10).trans (show _=some (.string ⟨f.amt.toArray⟩) from rfl);have g10:=(KG.cell 10).trans (show _=some (.string ⟨f.amt.toArray⟩) from rfl);have c11:=(KF.cell 11).trans (show _=some (.string ⟨f.fee.toArray⟩) from rfl);have g11:=(KG.cell 11).trans (show _=some (.string ⟨f.fee.toArray⟩) from rfl);have c12:=(KF.cell 12).trans (show _=some (.string ⟨f.price.n.toArray⟩) from rfl);have g12:=(KG.cell 12).trans (show _=some (.string ⟨f.price.n.toArray⟩) from rfl);have c13:=(KF.cell 13).trans (show _=some (.string ⟨f.price.d.toArray⟩) from rfl);have g13:=(KG.cell 13).trans (show _=some (.string ⟨f.price.d.toArray⟩) from rfl);have c14:=(KF.cell 14).trans (show _=some (.string ⟨f.ratio.n.toArray⟩) from rfl);have g14:=(KG.cell 14).trans (show _=some (.string ⟨f.ratio.n.toArray⟩) from rfl);have c15:=(KF.cell 15).trans (show _=some (.string ⟨f.ratio.d.toArray⟩) from rfl);have g15:=(KG.cell 15).trans (show _=some (.string ⟨f.ratio.d.toArray⟩) from rfl);have c16:=(KF.cell 16).trans (show _=some (.string ⟨f.share.n.toArray⟩) from rfl);have g16:=(KG.cell 16).trans (show _=some (.string ⟨f.share.n.toArray⟩) from rfl);have c17:=(KF.cell 17).trans (show _=some (.string ⟨f.share.d.toArray⟩) from rfl);have g17:=(KG.cell 17).trans (show _=some (.string ⟨f.share.d.toArray⟩) from rfl);have c18:=(KF.cell 18).trans (show _=some (.slice pa f.picks.length pc) from rfl);have g18:=(KG.cell 18).trans (show _=some (.slice pb f.picks.length pd) from rfl);have c19:=(KF.cell 19).trans (show _=some (.slice oa f.options.length oc) from rfl);have g19:=(KG.cell 19).trans (show _=some (.slice ob f.options.length od) from rfl);have c20:=(KF.cell 20).trans (show _=some (.int .i64 f.choice) from rfl);have g20:=(KG.cell 20).trans (show _=some (.int .i64 f.choice) from rfl);have KF:=Hd KF;have KG:=Hd KG;generalize hfc:f.cells pa pc oa oc=fc at *;generalize hgc:f.cells pb pd ob od=gc at *;have HFC:=Hd hfc;have HGC:=Hd hgc;clear hfc hgc;obtain⟨W0,hW0⟩:∃W0,W0=(w.alloc (.cells fc 30)).alloc (.cells gc 30):=⟨_,rfl⟩
 rw[←hW0] at KF KG HB0 HP1 HP2;go_enter Tryz.func19,Tryz.ntmps19;go_wp2_with fail;rw[←hW0];clear hW0 c0 g0 c1 g1 c2 g2 c3 g3 c4 g4 c5 g5 c6 g6 c7 g7 c8 g8 c9 g9 c10 g10 c11 g11 c12 g12 c13 g13 c14 g14 c15 g15 c16 g16 c17 g17 c18 g18 c19 g19 c20 g20;go_loopw [5] (fun iv wr=>∃k:Nat,k≤f.picks.length∧iv=.int .i64 k∧Hid (Below W0.heap.size W0 wr)) (fun iv _=>f.picks.length-(intOf iv).toNat)
 case atStart=>exact⟨0,Nat.zero_le _,rfl,Br _ _⟩
 case round =>
  obtain⟨k,hk,rfl,HB⟩:=hrel;have c18:=((KF.out.below HB.out).cell 18).trans (show _=some (.slice pa f.picks.length pc) from by rw[←HFC.out];rfl);have g18:=((KG.out.below HB.out).cell 18).trans (show _=some (.slice pb f.picks.length pd) from by rw[←HGC.out];rfl)
  by_cases hlt:k<f.picks.length
  ·obtain⟨p,hp⟩:∃p,f.picks[k]?=some p:=⟨_,Lg hlt⟩
   obtain⟨b1,o1,rfl,hl1,h1⟩:=HP1.out.1.addr (k:=k) (cs:=p.cells) (by rw[List.getElem?_map,hp];rfl);obtain⟨b2,o2,rfl,hl2,h2⟩:=HP2.out.1.addr (k:=k) (cs:=p.cells) (by rw[List.getElem?_map,hp];rfl);have d0:wr.cell? ⟨b1,o1+k*2,none⟩=some (.string ⟨p.lot.toArray⟩):=(HB.out.cell (p:=⟨b1,o1+k*2+0,none⟩) hl1).trans (h1 0 _ rfl);have d1:wr.cell? ⟨b1,o1+k*2+1,none⟩=some (.string ⟨p.q.toArray⟩):=(HB.out.cell (p:=⟨b1,o1+k*2+1,none⟩) hl1).trans (h1 1 _ rfl);have e0:wr.cell? ⟨b2,o2+k*2,none⟩=some (.string ⟨p.lot.toArray⟩):=(HB.out.cell (p:=⟨b2,o2+k*2+0,none⟩) hl2).trans (h2 0 _ rfl);have e1:wr.cell? ⟨b2,o2+k*2+1,none⟩=some (.string ⟨p.q.toArray⟩):=(HB.out.cell (p:=⟨b2,o2+k*2+1,none⟩) hl2).trans (h2 1 _ rfl);clear h1 h2 hp;generalize f.picks.length=n at *;go_wp2_with fail;go_quiet (fail);go_wp2;go_roundw
   case rel=>exact⟨k+1,by omega,by go_num,aD HB.out _⟩
   case measure=>simp[intOf];omega
  ·obtain rfl:k=f.picks.length:=by omega
   obtain⟨W1,hW1⟩:∃W1,W1=wr:=⟨_,rfl⟩
   subst hW1;go_wp2_with fail;go_loopw [6] (fun iv wr=>∃k:Nat,k≤f.options.length∧iv=.int .i64 k∧Hid (Below W0.heap.size W0 wr)) (fun iv _=>f.options.length-(intOf iv).toNat)
   case atStart=>exact⟨0,Nat.zero_le _,rfl,HB⟩
   case round =>
    clear HB c18 g18;obtain⟨k,hk,rfl,HB⟩:=hrel;have c19:=((KF.out.below HB.out).cell 19).trans (show _=some (.slice oa f.options.length oc) from by rw[←HFC.out];rfl);have g19:=((KG.out.below HB.out).cell 19).trans (show _=some (.slice ob f.options.length od) from by rw[←HGC.out];rfl)
    by_cases hlt:k<f.options.length
    ·obtain⟨p,hp⟩:∃p,f.options[k]?=some p:=⟨_,Lg hlt⟩
     obtain⟨b1,o1,rfl,hl1,h1⟩:=HP1.out.2.addr (k:=k) (cs:=p.cells) (by rw[List.getElem?_map,hp];rfl);obtain⟨b2,o2,rfl,hl2,h2⟩:=HP2.out.2.addr (k:=k) (cs:=p.cells) (by rw[List.getElem?_map,hp];rfl);have d0:wr.cell? ⟨b1,o1+k*7,none⟩=some (.string ⟨p.other.toArray⟩):=(HB.out.cell (p:=⟨b1,o1+k*7+0,none⟩) hl1).trans (h1 0 _ rfl);have e0:wr.cell? ⟨b2,o2+k*7,none⟩=some (.string ⟨p.other.toArray⟩):=(HB.out.cell (p:=⟨b2,o2+k*7+0,none⟩) hl2).trans (h2 0 _ rfl);have d1:wr.cell? ⟨b1,o1+k*7+1,none⟩=some (.string ⟨p.ratio.n.toArray⟩):=(HB.out.cell (p:=⟨b1,o1+k*7+1,none⟩) hl1).trans (h1 1 _ rfl);have e1:wr.cell? ⟨b2,o2+k*7+1,none⟩=some (.string ⟨p.ratio.n.toArray⟩):=(HB.out.cell (p:=⟨b2,o2+k*7+1,none⟩) hl2).trans (h2 1 _ rfl);have d2:wr.cell? ⟨b1,o1+k*7+2,none⟩=some (.string ⟨p.ratio.d.toArray⟩):=(HB.out.cell (p:=⟨b1,o1+k*7+2,none⟩) hl1).trans (h1 2 _ rfl);have e2:wr.cell? ⟨b2,o2+k*7+2,none⟩=some (.string ⟨p.ratio.d.toArray⟩):=(HB.out.cell (p:=⟨b2,o2+k*7+2,none⟩) hl2).trans (h2 2 _ rfl);have d3:wr.cell? ⟨b1,o1+k*7+3,none⟩=some (.string ⟨p.price.n.toArray⟩):=(HB.out.cell (p:=⟨b1,o1+k*7+3,none⟩) hl1).trans (h1 3 _ rfl);have e3:wr.cell? ⟨b2,o2+k*7+3,none⟩=some (.string ⟨p.price.n.toArray⟩):=(HB.out.cell (p:=⟨b2,o2+k*7+3,none⟩) hl2).trans (h2 3 _ rfl);have d4:wr.cell? ⟨b1,o1+k*7+4,none⟩=some (.string ⟨p.price.d.toArray⟩):=(HB.out.cell (p:=⟨b1,o1+k*7+4,none⟩) hl1).trans (h1 4 _ rfl);have e4:wr.cell? ⟨b2,o2+k*7+4,none⟩=some (.string ⟨p.price.d.toArray⟩):=(HB.out.cell (p:=⟨b2,o2+k*7+4,none⟩) hl2).trans (h2 4 _ rfl);have d5:wr.cell? ⟨b1,o1+k*7+5,none⟩=some (.string ⟨p.value.n.toArray⟩):=(HB.out.cell (p:=⟨b1,o1+k*7+5,none⟩) hl1).trans (h1 5 _ rfl);have e5:wr.cell? ⟨b2,o2+k*7+5,none⟩=some (.string ⟨p.value.n.toArray⟩):=(HB.out.cell (p:=⟨b2,o2+k*7+5,none⟩) hl2).trans (h2 5 _ rfl);have d6:wr.cell? ⟨b1,o1+k*7+6,none⟩=some (.string ⟨p.value.d.toArray⟩):=(HB.out.cell (p:=⟨b1,o1+k*7+6,none⟩) hl1).trans (h1 6 _ rfl);have e6:wr.cell? ⟨b2,o2+k*7+6,none⟩=some (.string ⟨p.value.d.toArray⟩):=(HB.out.cell (p:=⟨b2,o2+k*7+6,none⟩) hl2).trans (h2 6 _ rfl);clear h1 h2 hp;generalize f.options.length=n at *;go_wp2_with fail;go_quiet (fail);go_wp2;go_roundw
     case rel=>exact⟨k+1,by omega,by go_num,aD HB.out _⟩
     case measure=>simp[intOf];omega
    ·obtain rfl:k=f.options.length:=by omega
     go_wp2;go_ret;exact⟨rfl,aA HB0.out HB.out⟩
end
end Go.Proofs.YtbcebibkpfklnaaGreatDoor
