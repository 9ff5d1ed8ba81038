/- ROpts -/
import Derived.Test.YtgopbldkhlmbnaaGreatDoorJRZero
import Derived.Test.YtgopbldkhlmbnaaGreatDoorJOpts
import Derived.Test.YtgopbldkhlmbnaaGreatDoorJGreat2
set_option maxHeartbeats 16000000
set_option maxRecDepth 100000
namespace Go.Proofs.YtgopbldkhlmbnaaGreatDoor
open Go Go.RowKit Num
theorem fok_none {n d:List UInt8} (h:fok n d=true):fcmp n d [] []=0 ↔ (n.isEmpty && d.isEmpty)=true:=by
 rw [← fsign_cmp]
 have e1:fsign n d=cmpI (if den d < 0 then -(val n) else val n) 0:=by
  unfold fsign subN subD
  have e:val ([]:List UInt8)=0:=rfl
  rw [den_nil,Int.mul_one,Int.mul_one,e,Int.zero_mul,Int.sub_zero,rnum_sign (den_ne d)]
 rw [e1,(cmpI_zero _).2.1]
 constructor
 ·intro hz
  have hv:val n=0:=by split at hz <;> omega
  unfold fok at h
  rw [hv,rnum_zero] at h
  have hr:rden 0 (den d)=1:=by
   have hd:=den_ne d
   unfold rden
   have hg:(gcdZ 0 (den d):Int)=(den d).natAbs:=by unfold gcdZ;simp
   rw [hg]
   split
   ·rw [show ((den d).natAbs:Int) = -(den d) by omega];exact Int.fdiv_self (by omega)
   ·rw [show ((den d).natAbs:Int)=den d by omega];exact Int.fdiv_self (by omega)
  rw [hr,fden_one,canon_zero] at h
  simp at h
  simp [h]
 ·intro hn
  simp at hn
  obtain ⟨rfl,rfl⟩:=hn
  have e:val ([]:List UInt8)=0:=rfl
  rw [e]
  split <;> rfl
theorem lim_ok {n d:List UInt8} (hn:n.length≤13) (hd:d.length≤13) {p:Bool} (h:lim p false n d=0):fok n d=true:=by
 rw [lim_frac hn hd] at h
 cases hf:fok n d with
 | true=>rfl
 | false=>rw [hf] at h;simp at h
theorem opts_step {ins:List UInt8} {os:List OptP} {k:Nat} {x:OptP} (h:os[k]? = some x):opts ins (os.drop k)=if opt1 ins x ≠ 0 then opt1 ins x else opts ins (os.drop (k+1)):=by
 have hk:=(List.getElem?_eq_some_iff.1 h).1
 have hp:=(List.getElem?_eq_some_iff.1 h).2
 rw [List.drop_eq_getElem_cons hk,hp]
 rfl
theorem first3 (a b c:FracP):firstLim [a,b,c]=if lim false false a.n a.d ≠ 0 then lim false false a.n a.d else if lim false false b.n b.d ≠ 0 then lim false false b.n b.d else if lim false false c.n c.d ≠ 0 then lim false false c.n c.d else 0:=rfl
theorem ROptions_any (f:FactP) (pa oa:Option Addr) (pc oc:Nat) (w:World) (hb:f.Behind w pa oa) (hins:f.ins ≠ []) (hp13:∀ o,o∈f.options→o.other.length≤1000∧o.ratio.n.length≤13∧o.ratio.d.length≤13∧o.price.n.length≤13∧o.price.d.length≤13∧o.value.n.length≤13∧o.value.d.length≤13) (hpm:f.options.length≤1000) :
  Calls Tryz.prog 82 #[.agg (f.cells pa pc oa oc)] w fun e w'=>e = .returned (.int .i64 (optErr f))∧Below w.heap.size w w':=by
 have HSR:=Lib.hid hb.2
 obtain ⟨res,hres⟩:∃ res,res=optErr f:=⟨_,rfl⟩
 rw [← hres]
 unfold optErr at hres
 obtain ⟨key,stamp,cancelled,day,kind,ins,other,cur,target,fq,amt,fee,price,ratio,share,picks,os,choice⟩:=f
 clear hb
 have HX:=Lib.hid (Box.new0 w ((FactP.mk key stamp cancelled day kind ins other cur target fq amt fee price ratio share picks os choice).cells pa pc oa oc) 36)
 have HB:=Lib.hid (below_alloc w (.cells ((FactP.mk key stamp cancelled day kind ins other cur target fq amt fee price ratio share picks os choice).cells pa pc oa oc) 36))
 unfold FactP.cells at HX HB ⊢
 dsimp only at *
 have k19:=HX.out.cell 19
 by_cases h0:os.length=0
 ·rw [if_pos h0] at hres
  subst hres
  rw [h0] at k19 ⊢
  clear HSR hp13 HX hins
  go_enter Tryz.func82,Tryz.ntmps82
  go_wp2
  go_ret
  exact ⟨rfl,by rw [h0] at HB;exact HB.out⟩
 ·rw [if_neg h0] at hres
  have h0b:((os.length:Int) == 0)=false:=by simpa using h0
  by_cases hbig:8 < os.length
  ·rw [if_pos hbig] at hres
   subst hres
   clear HSR hp13 HX hins
   go_enter Tryz.func82,Tryz.ntmps82
   go_wp2
   go_ret
   exact ⟨rfl,HB.out⟩
  ·rw [if_neg hbig] at hres
   have HRES:=Lib.hid hres
   have HP13:=Lib.hid hp13
   have HINS:=Lib.hid hins
   clear hres hp13 hins
   obtain ⟨W0,hW0⟩:∃ W0,W0=w.alloc (.cells #[.string ⟨key.toArray⟩,.int .i64 stamp,.bool cancelled,.int .i64 day,.int .i64 kind,.string ⟨ins.toArray⟩,.string ⟨other.toArray⟩,.string ⟨cur.toArray⟩,.string ⟨target.toArray⟩,.string ⟨fq.toArray⟩,.string ⟨amt.toArray⟩,.string ⟨fee.toArray⟩,.string ⟨price.n.toArray⟩,.string ⟨price.d.toArray⟩,.string ⟨ratio.n.toArray⟩,.string ⟨ratio.d.toArray⟩,.string ⟨share.n.toArray⟩,.string ⟨share.d.toArray⟩,.slice pa picks.length pc,.slice oa os.length oc,.int .i64 choice] 36):=⟨_,rfl⟩
   rw [← hW0] at HX HB k19
   have HSR0:Hid (SRows W0 oa 7 (os.map OptP.cells)):=HSR.out.below (by rw [hW0];exact below_alloc _ _)
   clear HSR
   go_enter Tryz.func82,Tryz.ntmps82
   go_wp2_with fail
   rw [← hW0]
   clear hW0
   go_loopw [3] (fun iv W => ∃ k:Nat,k≤os.length∧iv = .int .i64 (k:Int)∧Hid (res=opts ins (os.drop k))∧Hid (Below W0.heap.size W0 W)) (fun iv _=>os.length - (intOf iv).toNat)
   case atStart=>exact ⟨0,Nat.zero_le _,rfl,HRES,Below.refl _ _⟩
   case round =>
    obtain ⟨k,hk,rfl,HP,HW⟩:=hrel
    have c19:=(HX.out.below HW.out).cell 19
    by_cases hlt:k < os.length
    ·obtain ⟨x,hx⟩:∃ x,os[k]? = some x:=⟨_,List.getElem?_eq_getElem hlt⟩
     have HST:=Lib.hid (HP.out.trans (opts_step hx))
     obtain ⟨l0,l1,l2,l3,l4,l5,l6⟩:=HP13.out x (List.mem_of_getElem? hx)
     obtain ⟨b,off,rfl,hbl,hcc⟩:=HSR0.out.addr (k:=k) (cs:=x.cells) (by rw [List.getElem?_map,hx];rfl)
     have HC:Hid (∀ j v,x.cells.toArray.toList[j]? = some v→wr.cell? ⟨b,off+k * 7+j,none⟩=some v):=fun j v hv=>(HW.out.cell (p:=⟨b,off+k * 7+j,none⟩) hbl).trans (hcc j v (by simpa using hv))
     have HSZ:Hid ((Tryz.prog.info? 77).map (·.size)=some x.cells.toArray.size):=Z7size
     have HONE:=Lib.hid (opt_one x)
     have HS7:Hid ((#[.string ⟨#[]⟩,.string ⟨#[]⟩,.string ⟨#[]⟩,.string ⟨#[]⟩,.string ⟨#[]⟩,.string ⟨#[]⟩,.string ⟨#[]⟩]:Array Value).size=x.cells.toArray.size):=rfl
     have HNEW:=Lib.hid (heap_alloc_new wr (.cells #[.string ⟨#[]⟩,.string ⟨#[]⟩,.string ⟨#[]⟩,.string ⟨#[]⟩,.string ⟨#[]⟩,.string ⟨#[]⟩,.string ⟨#[]⟩] 77))
     have KO:Hid (Box ((wr.alloc (.cells #[.string ⟨#[]⟩,.string ⟨#[]⟩,.string ⟨#[]⟩,.string ⟨#[]⟩,.string ⟨#[]⟩,.string ⟨#[]⟩,.string ⟨#[]⟩] 77)).setRow wr.heap.size x.cells.toArray) wr.heap.size x.cells.toArray 77):=⟨by simp [World.setRow],setRow_heap _ _ _ _ _ _ (heap_alloc_new wr (.cells #[.string ⟨#[]⟩,.string ⟨#[]⟩,.string ⟨#[]⟩,.string ⟨#[]⟩,.string ⟨#[]⟩,.string ⟨#[]⟩,.string ⟨#[]⟩] 77))⟩
     have HBo:=Lib.hid (below_up HW.out (below_setRow (below_alloc wr (.cells #[.string ⟨#[]⟩,.string ⟨#[]⟩,.string ⟨#[]⟩,.string ⟨#[]⟩,.string ⟨#[]⟩,.string ⟨#[]⟩,.string ⟨#[]⟩] 77)) (Nat.le_refl _) x.cells.toArray))
     have HXo:=Lib.hid (HX.out.below HBo.out)
     have e5:=HXo.out.cell 5
     have q0:=(KO.out.cell 0).trans (show _=some (.string ⟨x.other.toArray⟩) from rfl)
     have q1:=(KO.out.cell 1).trans (show _=some (.string ⟨x.ratio.n.toArray⟩) from rfl)
     have q2:=(KO.out.cell 2).trans (show _=some (.string ⟨x.ratio.d.toArray⟩) from rfl)
     have q3:=(KO.out.cell 3).trans (show _=some (.string ⟨x.price.n.toArray⟩) from rfl)
     have q4:=(KO.out.cell 4).trans (show _=some (.string ⟨x.price.d.toArray⟩) from rfl)
     have q5:=(KO.out.cell 5).trans (show _=some (.string ⟨x.value.n.toArray⟩) from rfl)
     have q6:=(KO.out.cell 6).trans (show _=some (.string ⟨x.value.d.toArray⟩) from rfl)
     have HQ0:=Lib.hid (show x.cells.toArray[0]? = some (.string ⟨x.other.toArray⟩) from rfl)
     have HQ1:=Lib.hid (show x.cells.toArray[1]? = some (.string ⟨x.ratio.n.toArray⟩) from rfl)
     have HQ2:=Lib.hid (show x.cells.toArray[2]? = some (.string ⟨x.ratio.d.toArray⟩) from rfl)
     have HQ3:=Lib.hid (show x.cells.toArray[3]? = some (.string ⟨x.price.n.toArray⟩) from rfl)
     have HQ4:=Lib.hid (show x.cells.toArray[4]? = some (.string ⟨x.price.d.toArray⟩) from rfl)
     have HQ5:=Lib.hid (show x.cells.toArray[5]? = some (.string ⟨x.value.n.toArray⟩) from rfl)
     have HQ6:=Lib.hid (show x.cells.toArray[6]? = some (.string ⟨x.value.d.toArray⟩) from rfl)
     have HNM:=Lib.hid (fun W=>RName_any x.other W (by omega))
     have HN1:=Lib.hid (fun W=>RNumber13_any x.ratio.n x.ratio.d false W l1 l2)
     have HN2:=Lib.hid (fun W=>RNumber13_any x.price.n x.price.d false W l3 l4)
     have HN3:=Lib.hid (fun W=>RNumber13_any x.value.n x.value.d false W l5 l6)
     have HG1:=Lib.hid (fun W=>RFSign_any x.ratio.n x.ratio.d W (by omega) (by omega))
     have HG3:=Lib.hid (fun W=>RFSign_any x.value.n x.value.d W (by omega) (by omega))
     have HNO1:=Lib.hid (fun h=>fok_none (lim_ok (p:=false) l1 l2 h))
     have HNO3:=Lib.hid (fun h=>fok_none (lim_ok (p:=false) l5 l6 h))
     clear hcc HP l0 l1 l2 l3 l4 l5 l6 hx
     unfold opt1 optLast FracP.none at HST
     rw [first3] at HST
     generalize x.cells.toArray=xc at *
     obtain ⟨oo,⟨rn,rd⟩,⟨pn,pd⟩,⟨vn,vd⟩⟩:=x
     dsimp only at *
     generalize lim false false rn rd=z1 at *
     generalize lim false false pn pd=z2 at *
     generalize lim false false vn vd=z3 at *
     generalize fcmp rn rd [] []=s1 at *
     generalize fcmp vn vd [] []=s3 at *
     generalize (rn.isEmpty && rd.isEmpty)=n1 at *
     generalize (vn.isEmpty && vd.isEmpty)=n3 at *
     cases hoe:oo.isEmpty with
     | true =>
      have hoi:(oo == ins)=false:=by
       have:oo=[]:=by simpa using hoe
       rw [this];have:=HINS.out;cases ins with | nil=>exact absurd rfl this | cons _ _=>rfl
      by_cases hz1:z1=0
      ·by_cases hz2:z2=0
       ·by_cases hz3:z3=0
        ·cases hn1:n1 with
         | true =>
          cases hn3:n3 with
          | true =>
           have hr:Hid (res=opts ins (os.drop (k+1))):=by have h:=HST.out;simp [hoe,hoi,hz1,hz2,hz3,hn1,hn3] at h;exact h
           have hs1:=HNO1.out hz1
           have hs3:=HNO3.out hz3
           rw [hn1] at hs1
           rw [hn3] at hs3
           have hs1':s1=0:=hs1.2 rfl
           have hs3':s3=0:=hs3.2 rfl
           clear HST hs1 hs3 HNO1 HNO3
           subst hs1'
           subst hs3'
           subst hz1 hz2 hz3
           go_wp2_with (first | (refine wpList_load_at rfl 77 _ rfl b (off+k * 7) rfl xc _ HC.out Tryz.underlying77 rfl HSZ.out ?_) | (refine wpList_store_row rfl 77 _ _ rfl wr.heap.size xc rfl rfl 77 #[.string ⟨#[]⟩,.string ⟨#[]⟩,.string ⟨#[]⟩,.string ⟨#[]⟩,.string ⟨#[]⟩,.string ⟨#[]⟩,.string ⟨#[]⟩] HNEW.out HSZ.out HS7.out HONE.out ?_))
           refine (HN1.out _).mono ?_
           rintro e w11 ⟨rfl,hb⟩
           have KO1:=Lib.hid (KO.out.below hb)
           have HBo1:=Lib.hid (below_up HBo.out hb)
           have HXo1:=Lib.hid (HXo.out.below hb)
           clear hb e5 q0 q1 q2 q3 q4 q5 q6 c19
           have c19:=HXo1.out.cell 19
           have e5:=HXo1.out.cell 5
           have q0:=(KO1.out.cell 0).trans HQ0.out
           have q1:=(KO1.out.cell 1).trans HQ1.out
           have q2:=(KO1.out.cell 2).trans HQ2.out
           have q3:=(KO1.out.cell 3).trans HQ3.out
           have q4:=(KO1.out.cell 4).trans HQ4.out
           have q5:=(KO1.out.cell 5).trans HQ5.out
           have q6:=(KO1.out.cell 6).trans HQ6.out
           go_wp2_with fail
           refine (HN2.out _).mono ?_
           rintro e w12 ⟨rfl,hb⟩
           have KO2:=Lib.hid (KO1.out.below hb)
           have HBo2:=Lib.hid (below_up HBo1.out hb)
           have HXo2:=Lib.hid (HXo1.out.below hb)
           clear hb e5 q0 q1 q2 q3 q4 q5 q6 c19
           have c19:=HXo2.out.cell 19
           have e5:=HXo2.out.cell 5
           have q0:=(KO2.out.cell 0).trans HQ0.out
           have q1:=(KO2.out.cell 1).trans HQ1.out
           have q2:=(KO2.out.cell 2).trans HQ2.out
           have q3:=(KO2.out.cell 3).trans HQ3.out
           have q4:=(KO2.out.cell 4).trans HQ4.out
           have q5:=(KO2.out.cell 5).trans HQ5.out
           have q6:=(KO2.out.cell 6).trans HQ6.out
           go_wp2_with fail
           refine (HN3.out _).mono ?_
           rintro e w13 ⟨rfl,hb⟩
           have KO3:=Lib.hid (KO2.out.below hb)
           have HBo3:=Lib.hid (below_up HBo2.out hb)
           have HXo3:=Lib.hid (HXo2.out.below hb)
           clear hb e5 q0 q1 q2 q3 q4 q5 q6 c19
           have c19:=HXo3.out.cell 19
           have e5:=HXo3.out.cell 5
           have q0:=(KO3.out.cell 0).trans HQ0.out
           have q1:=(KO3.out.cell 1).trans HQ1.out
           have q2:=(KO3.out.cell 2).trans HQ2.out
           have q3:=(KO3.out.cell 3).trans HQ3.out
           have q4:=(KO3.out.cell 4).trans HQ4.out
           have q5:=(KO3.out.cell 5).trans HQ5.out
           have q6:=(KO3.out.cell 6).trans HQ6.out
           go_wp2_with fail
           refine (HG1.out _).mono ?_
           rintro e w14 ⟨rfl,hb⟩
           have KO4:=Lib.hid (KO3.out.below hb)
           have HBo4:=Lib.hid (below_up HBo3.out hb)
           have HXo4:=Lib.hid (HXo3.out.below hb)
           clear hb e5 q0 q1 q2 q3 q4 q5 q6 c19
           have c19:=HXo4.out.cell 19
           have e5:=HXo4.out.cell 5
           have q0:=(KO4.out.cell 0).trans HQ0.out
           have q1:=(KO4.out.cell 1).trans HQ1.out
           have q2:=(KO4.out.cell 2).trans HQ2.out
           have q3:=(KO4.out.cell 3).trans HQ3.out
           have q4:=(KO4.out.cell 4).trans HQ4.out
           have q5:=(KO4.out.cell 5).trans HQ5.out
           have q6:=(KO4.out.cell 6).trans HQ6.out
           go_wp2_with fail
           refine (HG3.out _).mono ?_
           rintro e w15 ⟨rfl,hb⟩
           have KO5:=Lib.hid (KO4.out.below hb)
           have HBo5:=Lib.hid (below_up HBo4.out hb)
           have HXo5:=Lib.hid (HXo4.out.below hb)
           clear hb e5 q0 q1 q2 q3 q4 q5 q6 c19
           have c19:=HXo5.out.cell 19
           have e5:=HXo5.out.cell 5
           have q0:=(KO5.out.cell 0).trans HQ0.out
           have q1:=(KO5.out.cell 1).trans HQ1.out
           have q2:=(KO5.out.cell 2).trans HQ2.out
           have q3:=(KO5.out.cell 3).trans HQ3.out
           have q4:=(KO5.out.cell 4).trans HQ4.out
           have q5:=(KO5.out.cell 5).trans HQ5.out
           have q6:=(KO5.out.cell 6).trans HQ6.out
           go_wp2
           go_roundw
           case rel=>exact ⟨k+1,by omega,by go_num,hr,HBo5⟩
           case measure=>simp [intOf];omega
          | false =>
           have hr:Hid (res=2):=by have h:=HST.out;simp [hoe,hoi,hz1,hz2,hz3,hn1,hn3] at h;exact h
           have hs1:=HNO1.out hz1
           have hs3:=HNO3.out hz3
           rw [hn1] at hs1
           rw [hn3] at hs3
           have hs1':s1=0:=hs1.2 rfl
           have hs3':(s3 != 0)=true:=by simpa using fun h=>Bool.noConfusion (hs3.1 h)
           clear HST hs1 hs3 HNO1 HNO3
           subst hs1'
           subst hz1 hz2 hz3
           go_wp2_with (first | (refine wpList_load_at rfl 77 _ rfl b (off+k * 7) rfl xc _ HC.out Tryz.underlying77 rfl HSZ.out ?_) | (refine wpList_store_row rfl 77 _ _ rfl wr.heap.size xc rfl rfl 77 #[.string ⟨#[]⟩,.string ⟨#[]⟩,.string ⟨#[]⟩,.string ⟨#[]⟩,.string ⟨#[]⟩,.string ⟨#[]⟩,.string ⟨#[]⟩] HNEW.out HSZ.out HS7.out HONE.out ?_))
           refine (HN1.out _).mono ?_
           rintro e w11 ⟨rfl,hb⟩
           have KO1:=Lib.hid (KO.out.below hb)
           have HBo1:=Lib.hid (below_up HBo.out hb)
           have HXo1:=Lib.hid (HXo.out.below hb)
           clear hb e5 q0 q1 q2 q3 q4 q5 q6 c19
           have c19:=HXo1.out.cell 19
           have e5:=HXo1.out.cell 5
           have q0:=(KO1.out.cell 0).trans HQ0.out
           have q1:=(KO1.out.cell 1).trans HQ1.out
           have q2:=(KO1.out.cell 2).trans HQ2.out
           have q3:=(KO1.out.cell 3).trans HQ3.out
           have q4:=(KO1.out.cell 4).trans HQ4.out
           have q5:=(KO1.out.cell 5).trans HQ5.out
           have q6:=(KO1.out.cell 6).trans HQ6.out
           go_wp2_with fail
           refine (HN2.out _).mono ?_
           rintro e w12 ⟨rfl,hb⟩
           have KO2:=Lib.hid (KO1.out.below hb)
           have HBo2:=Lib.hid (below_up HBo1.out hb)
           have HXo2:=Lib.hid (HXo1.out.below hb)
           clear hb e5 q0 q1 q2 q3 q4 q5 q6 c19
           have c19:=HXo2.out.cell 19
           have e5:=HXo2.out.cell 5
           have q0:=(KO2.out.cell 0).trans HQ0.out
           have q1:=(KO2.out.cell 1).trans HQ1.out
           have q2:=(KO2.out.cell 2).trans HQ2.out
           have q3:=(KO2.out.cell 3).trans HQ3.out
           have q4:=(KO2.out.cell 4).trans HQ4.out
           have q5:=(KO2.out.cell 5).trans HQ5.out
           have q6:=(KO2.out.cell 6).trans HQ6.out
           go_wp2_with fail
           refine (HN3.out _).mono ?_
           rintro e w13 ⟨rfl,hb⟩
           have KO3:=Lib.hid (KO2.out.below hb)
           have HBo3:=Lib.hid (below_up HBo2.out hb)
           have HXo3:=Lib.hid (HXo2.out.below hb)
           clear hb e5 q0 q1 q2 q3 q4 q5 q6 c19
           have c19:=HXo3.out.cell 19
           have e5:=HXo3.out.cell 5
           have q0:=(KO3.out.cell 0).trans HQ0.out
           have q1:=(KO3.out.cell 1).trans HQ1.out
           have q2:=(KO3.out.cell 2).trans HQ2.out
           have q3:=(KO3.out.cell 3).trans HQ3.out
           have q4:=(KO3.out.cell 4).trans HQ4.out
           have q5:=(KO3.out.cell 5).trans HQ5.out
           have q6:=(KO3.out.cell 6).trans HQ6.out
           go_wp2_with fail
           refine (HG1.out _).mono ?_
           rintro e w14 ⟨rfl,hb⟩
           have KO4:=Lib.hid (KO3.out.below hb)
           have HBo4:=Lib.hid (below_up HBo3.out hb)
           have HXo4:=Lib.hid (HXo3.out.below hb)
           clear hb e5 q0 q1 q2 q3 q4 q5 q6 c19
           have c19:=HXo4.out.cell 19
           have e5:=HXo4.out.cell 5
           have q0:=(KO4.out.cell 0).trans HQ0.out
           have q1:=(KO4.out.cell 1).trans HQ1.out
           have q2:=(KO4.out.cell 2).trans HQ2.out
           have q3:=(KO4.out.cell 3).trans HQ3.out
           have q4:=(KO4.out.cell 4).trans HQ4.out
           have q5:=(KO4.out.cell 5).trans HQ5.out
           have q6:=(KO4.out.cell 6).trans HQ6.out
           go_wp2_with fail
           refine (HG3.out _).mono ?_
           rintro e w15 ⟨rfl,hb⟩
           have KO5:=Lib.hid (KO4.out.below hb)
           have HBo5:=Lib.hid (below_up HBo4.out hb)
           have HXo5:=Lib.hid (HXo4.out.below hb)
           clear hb e5 q0 q1 q2 q3 q4 q5 q6 c19
           have c19:=HXo5.out.cell 19
           have e5:=HXo5.out.cell 5
           have q0:=(KO5.out.cell 0).trans HQ0.out
           have q1:=(KO5.out.cell 1).trans HQ1.out
           have q2:=(KO5.out.cell 2).trans HQ2.out
           have q3:=(KO5.out.cell 3).trans HQ3.out
           have q4:=(KO5.out.cell 4).trans HQ4.out
           have q5:=(KO5.out.cell 5).trans HQ5.out
           have q6:=(KO5.out.cell 6).trans HQ6.out
           go_wp2
           go_ret
           exact ⟨by rw [hr.out];rfl,below_up HB.out HBo5.out⟩
         | false =>
          cases hn3:n3 with
          | true =>
           have hr:Hid (res=2):=by have h:=HST.out;simp [hoe,hoi,hz1,hz2,hz3,hn1,hn3] at h;exact h
           have hs1:=HNO1.out hz1
           have hs3:=HNO3.out hz3
           rw [hn1] at hs1
           rw [hn3] at hs3
           have hs1':(s1 == 0)=false:=by simpa using fun h=>Bool.noConfusion (hs1.1 h)
           have hs3':s3=0:=hs3.2 rfl
           clear HST hs1 hs3 HNO1 HNO3
           subst hs3'
           subst hz1 hz2 hz3
           go_wp2_with (first | (refine wpList_load_at rfl 77 _ rfl b (off+k * 7) rfl xc _ HC.out Tryz.underlying77 rfl HSZ.out ?_) | (refine wpList_store_row rfl 77 _ _ rfl wr.heap.size xc rfl rfl 77 #[.string ⟨#[]⟩,.string ⟨#[]⟩,.string ⟨#[]⟩,.string ⟨#[]⟩,.string ⟨#[]⟩,.string ⟨#[]⟩,.string ⟨#[]⟩] HNEW.out HSZ.out HS7.out HONE.out ?_))
           refine (HN1.out _).mono ?_
           rintro e w11 ⟨rfl,hb⟩
           have KO1:=Lib.hid (KO.out.below hb)
           have HBo1:=Lib.hid (below_up HBo.out hb)
           have HXo1:=Lib.hid (HXo.out.below hb)
           clear hb e5 q0 q1 q2 q3 q4 q5 q6 c19
           have c19:=HXo1.out.cell 19
           have e5:=HXo1.out.cell 5
           have q0:=(KO1.out.cell 0).trans HQ0.out
           have q1:=(KO1.out.cell 1).trans HQ1.out
           have q2:=(KO1.out.cell 2).trans HQ2.out
           have q3:=(KO1.out.cell 3).trans HQ3.out
           have q4:=(KO1.out.cell 4).trans HQ4.out
           have q5:=(KO1.out.cell 5).trans HQ5.out
           have q6:=(KO1.out.cell 6).trans HQ6.out
           go_wp2_with fail
           refine (HN2.out _).mono ?_
           rintro e w12 ⟨rfl,hb⟩
           have KO2:=Lib.hid (KO1.out.below hb)
           have HBo2:=Lib.hid (below_up HBo1.out hb)
           have HXo2:=Lib.hid (HXo1.out.below hb)
           clear hb e5 q0 q1 q2 q3 q4 q5 q6 c19
           have c19:=HXo2.out.cell 19
           have e5:=HXo2.out.cell 5
           have q0:=(KO2.out.cell 0).trans HQ0.out
           have q1:=(KO2.out.cell 1).trans HQ1.out
           have q2:=(KO2.out.cell 2).trans HQ2.out
           have q3:=(KO2.out.cell 3).trans HQ3.out
           have q4:=(KO2.out.cell 4).trans HQ4.out
           have q5:=(KO2.out.cell 5).trans HQ5.out
           have q6:=(KO2.out.cell 6).trans HQ6.out
           go_wp2_with fail
           refine (HN3.out _).mono ?_
           rintro e w13 ⟨rfl,hb⟩
           have KO3:=Lib.hid (KO2.out.below hb)
           have HBo3:=Lib.hid (below_up HBo2.out hb)
           have HXo3:=Lib.hid (HXo2.out.below hb)
           clear hb e5 q0 q1 q2 q3 q4 q5 q6 c19
           have c19:=HXo3.out.cell 19
           have e5:=HXo3.out.cell 5
           have q0:=(KO3.out.cell 0).trans HQ0.out
           have q1:=(KO3.out.cell 1).trans HQ1.out
           have q2:=(KO3.out.cell 2).trans HQ2.out
           have q3:=(KO3.out.cell 3).trans HQ3.out
           have q4:=(KO3.out.cell 4).trans HQ4.out
           have q5:=(KO3.out.cell 5).trans HQ5.out
           have q6:=(KO3.out.cell 6).trans HQ6.out
           go_wp2_with fail
           refine (HG1.out _).mono ?_
           rintro e w14 ⟨rfl,hb⟩
           have KO4:=Lib.hid (KO3.out.below hb)
           have HBo4:=Lib.hid (below_up HBo3.out hb)
           have HXo4:=Lib.hid (HXo3.out.below hb)
           clear hb e5 q0 q1 q2 q3 q4 q5 q6 c19
           have c19:=HXo4.out.cell 19
           have e5:=HXo4.out.cell 5
           have q0:=(KO4.out.cell 0).trans HQ0.out
           have q1:=(KO4.out.cell 1).trans HQ1.out
           have q2:=(KO4.out.cell 2).trans HQ2.out
           have q3:=(KO4.out.cell 3).trans HQ3.out
           have q4:=(KO4.out.cell 4).trans HQ4.out
           have q5:=(KO4.out.cell 5).trans HQ5.out
           have q6:=(KO4.out.cell 6).trans HQ6.out
           go_wp2
           go_ret
           exact ⟨by rw [hr.out];rfl,below_up HB.out HBo4.out⟩
          | false =>
           have hr:Hid (res=2):=by have h:=HST.out;simp [hoe,hoi,hz1,hz2,hz3,hn1,hn3] at h;exact h
           have hs1:=HNO1.out hz1
           have hs3:=HNO3.out hz3
           rw [hn1] at hs1
           rw [hn3] at hs3
           have hs1':(s1 == 0)=false:=by simpa using fun h=>Bool.noConfusion (hs1.1 h)
           have hs3':(s3 != 0)=true:=by simpa using fun h=>Bool.noConfusion (hs3.1 h)
           clear HST hs1 hs3 HNO1 HNO3
           subst hz1 hz2 hz3
           go_wp2_with (first | (refine wpList_load_at rfl 77 _ rfl b (off+k * 7) rfl xc _ HC.out Tryz.underlying77 rfl HSZ.out ?_) | (refine wpList_store_row rfl 77 _ _ rfl wr.heap.size xc rfl rfl 77 #[.string ⟨#[]⟩,.string ⟨#[]⟩,.string ⟨#[]⟩,.string ⟨#[]⟩,.string ⟨#[]⟩,.string ⟨#[]⟩,.string ⟨#[]⟩] HNEW.out HSZ.out HS7.out HONE.out ?_))
           refine (HN1.out _).mono ?_
           rintro e w11 ⟨rfl,hb⟩
           have KO1:=Lib.hid (KO.out.below hb)
           have HBo1:=Lib.hid (below_up HBo.out hb)
           have HXo1:=Lib.hid (HXo.out.below hb)
           clear hb e5 q0 q1 q2 q3 q4 q5 q6 c19
           have c19:=HXo1.out.cell 19
           have e5:=HXo1.out.cell 5
           have q0:=(KO1.out.cell 0).trans HQ0.out
           have q1:=(KO1.out.cell 1).trans HQ1.out
           have q2:=(KO1.out.cell 2).trans HQ2.out
           have q3:=(KO1.out.cell 3).trans HQ3.out
           have q4:=(KO1.out.cell 4).trans HQ4.out
           have q5:=(KO1.out.cell 5).trans HQ5.out
           have q6:=(KO1.out.cell 6).trans HQ6.out
           go_wp2_with fail
           refine (HN2.out _).mono ?_
           rintro e w12 ⟨rfl,hb⟩
           have KO2:=Lib.hid (KO1.out.below hb)
           have HBo2:=Lib.hid (below_up HBo1.out hb)
           have HXo2:=Lib.hid (HXo1.out.below hb)
           clear hb e5 q0 q1 q2 q3 q4 q5 q6 c19
           have c19:=HXo2.out.cell 19
           have e5:=HXo2.out.cell 5
           have q0:=(KO2.out.cell 0).trans HQ0.out
           have q1:=(KO2.out.cell 1).trans HQ1.out
           have q2:=(KO2.out.cell 2).trans HQ2.out
           have q3:=(KO2.out.cell 3).trans HQ3.out
           have q4:=(KO2.out.cell 4).trans HQ4.out
           have q5:=(KO2.out.cell 5).trans HQ5.out
           have q6:=(KO2.out.cell 6).trans HQ6.out
           go_wp2_with fail
           refine (HN3.out _).mono ?_
           rintro e w13 ⟨rfl,hb⟩
           have KO3:=Lib.hid (KO2.out.below hb)
           have HBo3:=Lib.hid (below_up HBo2.out hb)
           have HXo3:=Lib.hid (HXo2.out.below hb)
           clear hb e5 q0 q1 q2 q3 q4 q5 q6 c19
           have c19:=HXo3.out.cell 19
           have e5:=HXo3.out.cell 5
           have q0:=(KO3.out.cell 0).trans HQ0.out
           have q1:=(KO3.out.cell 1).trans HQ1.out
           have q2:=(KO3.out.cell 2).trans HQ2.out
           have q3:=(KO3.out.cell 3).trans HQ3.out
           have q4:=(KO3.out.cell 4).trans HQ4.out
           have q5:=(KO3.out.cell 5).trans HQ5.out
           have q6:=(KO3.out.cell 6).trans HQ6.out
           go_wp2_with fail
           refine (HG1.out _).mono ?_
           rintro e w14 ⟨rfl,hb⟩
           have KO4:=Lib.hid (KO3.out.below hb)
           have HBo4:=Lib.hid (below_up HBo3.out hb)
           have HXo4:=Lib.hid (HXo3.out.below hb)
           clear hb e5 q0 q1 q2 q3 q4 q5 q6 c19
           have c19:=HXo4.out.cell 19
           have e5:=HXo4.out.cell 5
           have q0:=(KO4.out.cell 0).trans HQ0.out
           have q1:=(KO4.out.cell 1).trans HQ1.out
           have q2:=(KO4.out.cell 2).trans HQ2.out
           have q3:=(KO4.out.cell 3).trans HQ3.out
           have q4:=(KO4.out.cell 4).trans HQ4.out
           have q5:=(KO4.out.cell 5).trans HQ5.out
           have q6:=(KO4.out.cell 6).trans HQ6.out
           go_wp2
           go_ret
           exact ⟨by rw [hr.out];rfl,below_up HB.out HBo4.out⟩
        ·have hr:Hid (res=z3):=by have h:=HST.out;simp [hoe,hoi,hz1,hz2,hz3] at h;exact h
         have hzb:(z3 != 0)=true:=by simpa using hz3
         clear HST HNO1 HNO3 hz3
         subst hz1
         subst hz2
         go_wp2_with (first | (refine wpList_load_at rfl 77 _ rfl b (off+k * 7) rfl xc _ HC.out Tryz.underlying77 rfl HSZ.out ?_) | (refine wpList_store_row rfl 77 _ _ rfl wr.heap.size xc rfl rfl 77 #[.string ⟨#[]⟩,.string ⟨#[]⟩,.string ⟨#[]⟩,.string ⟨#[]⟩,.string ⟨#[]⟩,.string ⟨#[]⟩,.string ⟨#[]⟩] HNEW.out HSZ.out HS7.out HONE.out ?_))
         refine (HN1.out _).mono ?_
         rintro e w11 ⟨rfl,hb⟩
         have KO1:=Lib.hid (KO.out.below hb)
         have HBo1:=Lib.hid (below_up HBo.out hb)
         have HXo1:=Lib.hid (HXo.out.below hb)
         clear hb e5 q0 q1 q2 q3 q4 q5 q6 c19
         have c19:=HXo1.out.cell 19
         have e5:=HXo1.out.cell 5
         have q0:=(KO1.out.cell 0).trans HQ0.out
         have q1:=(KO1.out.cell 1).trans HQ1.out
         have q2:=(KO1.out.cell 2).trans HQ2.out
         have q3:=(KO1.out.cell 3).trans HQ3.out
         have q4:=(KO1.out.cell 4).trans HQ4.out
         have q5:=(KO1.out.cell 5).trans HQ5.out
         have q6:=(KO1.out.cell 6).trans HQ6.out
         go_wp2_with fail
         refine (HN2.out _).mono ?_
         rintro e w12 ⟨rfl,hb⟩
         have KO2:=Lib.hid (KO1.out.below hb)
         have HBo2:=Lib.hid (below_up HBo1.out hb)
         have HXo2:=Lib.hid (HXo1.out.below hb)
         clear hb e5 q0 q1 q2 q3 q4 q5 q6 c19
         have c19:=HXo2.out.cell 19
         have e5:=HXo2.out.cell 5
         have q0:=(KO2.out.cell 0).trans HQ0.out
         have q1:=(KO2.out.cell 1).trans HQ1.out
         have q2:=(KO2.out.cell 2).trans HQ2.out
         have q3:=(KO2.out.cell 3).trans HQ3.out
         have q4:=(KO2.out.cell 4).trans HQ4.out
         have q5:=(KO2.out.cell 5).trans HQ5.out
         have q6:=(KO2.out.cell 6).trans HQ6.out
         go_wp2_with fail
         refine (HN3.out _).mono ?_
         rintro e w13 ⟨rfl,hb⟩
         have KO3:=Lib.hid (KO2.out.below hb)
         have HBo3:=Lib.hid (below_up HBo2.out hb)
         have HXo3:=Lib.hid (HXo2.out.below hb)
         clear hb e5 q0 q1 q2 q3 q4 q5 q6 c19
         have c19:=HXo3.out.cell 19
         have e5:=HXo3.out.cell 5
         have q0:=(KO3.out.cell 0).trans HQ0.out
         have q1:=(KO3.out.cell 1).trans HQ1.out
         have q2:=(KO3.out.cell 2).trans HQ2.out
         have q3:=(KO3.out.cell 3).trans HQ3.out
         have q4:=(KO3.out.cell 4).trans HQ4.out
         have q5:=(KO3.out.cell 5).trans HQ5.out
         have q6:=(KO3.out.cell 6).trans HQ6.out
         go_wp2
         go_ret
         exact ⟨by rw [hr.out];rfl,below_up HB.out HBo3.out⟩
       ·have hr:Hid (res=z2):=by have h:=HST.out;simp [hoe,hoi,hz1,hz2] at h;exact h
        have hzb:(z2 != 0)=true:=by simpa using hz2
        clear HST HNO1 HNO3 hz2
        subst hz1
        go_wp2_with (first | (refine wpList_load_at rfl 77 _ rfl b (off+k * 7) rfl xc _ HC.out Tryz.underlying77 rfl HSZ.out ?_) | (refine wpList_store_row rfl 77 _ _ rfl wr.heap.size xc rfl rfl 77 #[.string ⟨#[]⟩,.string ⟨#[]⟩,.string ⟨#[]⟩,.string ⟨#[]⟩,.string ⟨#[]⟩,.string ⟨#[]⟩,.string ⟨#[]⟩] HNEW.out HSZ.out HS7.out HONE.out ?_))
        refine (HN1.out _).mono ?_
        rintro e w11 ⟨rfl,hb⟩
        have KO1:=Lib.hid (KO.out.below hb)
        have HBo1:=Lib.hid (below_up HBo.out hb)
        have HXo1:=Lib.hid (HXo.out.below hb)
        clear hb e5 q0 q1 q2 q3 q4 q5 q6 c19
        have c19:=HXo1.out.cell 19
        have e5:=HXo1.out.cell 5
        have q0:=(KO1.out.cell 0).trans HQ0.out
        have q1:=(KO1.out.cell 1).trans HQ1.out
        have q2:=(KO1.out.cell 2).trans HQ2.out
        have q3:=(KO1.out.cell 3).trans HQ3.out
        have q4:=(KO1.out.cell 4).trans HQ4.out
        have q5:=(KO1.out.cell 5).trans HQ5.out
        have q6:=(KO1.out.cell 6).trans HQ6.out
        go_wp2_with fail
        refine (HN2.out _).mono ?_
        rintro e w12 ⟨rfl,hb⟩
        have KO2:=Lib.hid (KO1.out.below hb)
        have HBo2:=Lib.hid (below_up HBo1.out hb)
        have HXo2:=Lib.hid (HXo1.out.below hb)
        clear hb e5 q0 q1 q2 q3 q4 q5 q6 c19
        have c19:=HXo2.out.cell 19
        have e5:=HXo2.out.cell 5
        have q0:=(KO2.out.cell 0).trans HQ0.out
        have q1:=(KO2.out.cell 1).trans HQ1.out
        have q2:=(KO2.out.cell 2).trans HQ2.out
        have q3:=(KO2.out.cell 3).trans HQ3.out
        have q4:=(KO2.out.cell 4).trans HQ4.out
        have q5:=(KO2.out.cell 5).trans HQ5.out
        have q6:=(KO2.out.cell 6).trans HQ6.out
        go_wp2
        go_ret
        exact ⟨by rw [hr.out];rfl,below_up HB.out HBo2.out⟩
      ·have hr:Hid (res=z1):=by have h:=HST.out;simp [hoe,hoi,hz1] at h;exact h
       have hzb:(z1 != 0)=true:=by simpa using hz1
       clear HST HNO1 HNO3 hz1
       go_wp2_with (first | (refine wpList_load_at rfl 77 _ rfl b (off+k * 7) rfl xc _ HC.out Tryz.underlying77 rfl HSZ.out ?_) | (refine wpList_store_row rfl 77 _ _ rfl wr.heap.size xc rfl rfl 77 #[.string ⟨#[]⟩,.string ⟨#[]⟩,.string ⟨#[]⟩,.string ⟨#[]⟩,.string ⟨#[]⟩,.string ⟨#[]⟩,.string ⟨#[]⟩] HNEW.out HSZ.out HS7.out HONE.out ?_))
       refine (HN1.out _).mono ?_
       rintro e w11 ⟨rfl,hb⟩
       have KO1:=Lib.hid (KO.out.below hb)
       have HBo1:=Lib.hid (below_up HBo.out hb)
       have HXo1:=Lib.hid (HXo.out.below hb)
       clear hb e5 q0 q1 q2 q3 q4 q5 q6 c19
       have c19:=HXo1.out.cell 19
       have e5:=HXo1.out.cell 5
       have q0:=(KO1.out.cell 0).trans HQ0.out
       have q1:=(KO1.out.cell 1).trans HQ1.out
       have q2:=(KO1.out.cell 2).trans HQ2.out
       have q3:=(KO1.out.cell 3).trans HQ3.out
       have q4:=(KO1.out.cell 4).trans HQ4.out
       have q5:=(KO1.out.cell 5).trans HQ5.out
       have q6:=(KO1.out.cell 6).trans HQ6.out
       go_wp2
       go_ret
       exact ⟨by rw [hr.out];rfl,below_up HB.out HBo1.out⟩
     | false =>
      cases hnm:isName oo with
      | false =>
       have hr:Hid (res=23):=by have h:=HST.out;simp [hoe,hnm] at h;exact h
       rw [hnm] at HNM
       clear HST HNO1 HNO3
       go_wp2_with (first | (refine wpList_load_at rfl 77 _ rfl b (off+k * 7) rfl xc _ HC.out Tryz.underlying77 rfl HSZ.out ?_) | (refine wpList_store_row rfl 77 _ _ rfl wr.heap.size xc rfl rfl 77 #[.string ⟨#[]⟩,.string ⟨#[]⟩,.string ⟨#[]⟩,.string ⟨#[]⟩,.string ⟨#[]⟩,.string ⟨#[]⟩,.string ⟨#[]⟩] HNEW.out HSZ.out HS7.out HONE.out ?_))
       refine (HNM.out _).mono ?_
       rintro e w9 ⟨rfl,rfl⟩
       go_wp2
       go_ret
       exact ⟨by rw [hr.out];rfl,below_up HB.out HBo.out⟩
      | true =>
       rw [hnm] at HNM
       cases hoi:(oo == ins) with
       | true =>
        have hr:Hid (res=18):=by have h:=HST.out;simp [hoe,hnm,hoi] at h;exact h
        clear HST HNO1 HNO3
        go_wp2_with (first | (refine wpList_load_at rfl 77 _ rfl b (off+k * 7) rfl xc _ HC.out Tryz.underlying77 rfl HSZ.out ?_) | (refine wpList_store_row rfl 77 _ _ rfl wr.heap.size xc rfl rfl 77 #[.string ⟨#[]⟩,.string ⟨#[]⟩,.string ⟨#[]⟩,.string ⟨#[]⟩,.string ⟨#[]⟩,.string ⟨#[]⟩,.string ⟨#[]⟩] HNEW.out HSZ.out HS7.out HONE.out ?_))
        refine (HNM.out _).mono ?_
        rintro e w9 ⟨rfl,rfl⟩
        go_wp2
        go_ret
        exact ⟨by rw [hr.out];rfl,below_up HB.out HBo.out⟩
       | false =>
        by_cases hz1:z1=0
        ·by_cases hz2:z2=0
         ·by_cases hz3:z3=0
          ·cases hn1:n1 with
           | true =>
            cases hn3:n3 with
            | true =>
             have hr:Hid (res=2):=by have h:=HST.out;simp [hoe,hnm,hoi,hz1,hz2,hz3,hn1,hn3] at h;exact h
             have hs1:=HNO1.out hz1
             have hs3:=HNO3.out hz3
             rw [hn1] at hs1
             rw [hn3] at hs3
             have hs1':s1=0:=hs1.2 rfl
             have hs3':s3=0:=hs3.2 rfl
             clear HST hs1 hs3 HNO1 HNO3
             subst hs1'
             subst hs3'
             subst hz1 hz2 hz3
             go_wp2_with (first | (refine wpList_load_at rfl 77 _ rfl b (off+k * 7) rfl xc _ HC.out Tryz.underlying77 rfl HSZ.out ?_) | (refine wpList_store_row rfl 77 _ _ rfl wr.heap.size xc rfl rfl 77 #[.string ⟨#[]⟩,.string ⟨#[]⟩,.string ⟨#[]⟩,.string ⟨#[]⟩,.string ⟨#[]⟩,.string ⟨#[]⟩,.string ⟨#[]⟩] HNEW.out HSZ.out HS7.out HONE.out ?_))
             refine (HNM.out _).mono ?_
             rintro e w9 ⟨rfl,rfl⟩
             go_wp2_with fail
             refine (HN1.out _).mono ?_
             rintro e w11 ⟨rfl,hb⟩
             have KO1:=Lib.hid (KO.out.below hb)
             have HBo1:=Lib.hid (below_up HBo.out hb)
             have HXo1:=Lib.hid (HXo.out.below hb)
             clear hb e5 q0 q1 q2 q3 q4 q5 q6 c19
             have c19:=HXo1.out.cell 19
             have e5:=HXo1.out.cell 5
             have q0:=(KO1.out.cell 0).trans HQ0.out
             have q1:=(KO1.out.cell 1).trans HQ1.out
             have q2:=(KO1.out.cell 2).trans HQ2.out
             have q3:=(KO1.out.cell 3).trans HQ3.out
             have q4:=(KO1.out.cell 4).trans HQ4.out
             have q5:=(KO1.out.cell 5).trans HQ5.out
             have q6:=(KO1.out.cell 6).trans HQ6.out
             go_wp2_with fail
             refine (HN2.out _).mono ?_
             rintro e w12 ⟨rfl,hb⟩
             have KO2:=Lib.hid (KO1.out.below hb)
             have HBo2:=Lib.hid (below_up HBo1.out hb)
             have HXo2:=Lib.hid (HXo1.out.below hb)
             clear hb e5 q0 q1 q2 q3 q4 q5 q6 c19
             have c19:=HXo2.out.cell 19
             have e5:=HXo2.out.cell 5
             have q0:=(KO2.out.cell 0).trans HQ0.out
             have q1:=(KO2.out.cell 1).trans HQ1.out
             have q2:=(KO2.out.cell 2).trans HQ2.out
             have q3:=(KO2.out.cell 3).trans HQ3.out
             have q4:=(KO2.out.cell 4).trans HQ4.out
             have q5:=(KO2.out.cell 5).trans HQ5.out
             have q6:=(KO2.out.cell 6).trans HQ6.out
             go_wp2_with fail
             refine (HN3.out _).mono ?_
             rintro e w13 ⟨rfl,hb⟩
             have KO3:=Lib.hid (KO2.out.below hb)
             have HBo3:=Lib.hid (below_up HBo2.out hb)
             have HXo3:=Lib.hid (HXo2.out.below hb)
             clear hb e5 q0 q1 q2 q3 q4 q5 q6 c19
             have c19:=HXo3.out.cell 19
             have e5:=HXo3.out.cell 5
             have q0:=(KO3.out.cell 0).trans HQ0.out
             have q1:=(KO3.out.cell 1).trans HQ1.out
             have q2:=(KO3.out.cell 2).trans HQ2.out
             have q3:=(KO3.out.cell 3).trans HQ3.out
             have q4:=(KO3.out.cell 4).trans HQ4.out
             have q5:=(KO3.out.cell 5).trans HQ5.out
             have q6:=(KO3.out.cell 6).trans HQ6.out
             go_wp2_with fail
             refine (HG1.out _).mono ?_
             rintro e w14 ⟨rfl,hb⟩
             have KO4:=Lib.hid (KO3.out.below hb)
             have HBo4:=Lib.hid (below_up HBo3.out hb)
             have HXo4:=Lib.hid (HXo3.out.below hb)
             clear hb e5 q0 q1 q2 q3 q4 q5 q6 c19
             have c19:=HXo4.out.cell 19
             have e5:=HXo4.out.cell 5
             have q0:=(KO4.out.cell 0).trans HQ0.out
             have q1:=(KO4.out.cell 1).trans HQ1.out
             have q2:=(KO4.out.cell 2).trans HQ2.out
             have q3:=(KO4.out.cell 3).trans HQ3.out
             have q4:=(KO4.out.cell 4).trans HQ4.out
             have q5:=(KO4.out.cell 5).trans HQ5.out
             have q6:=(KO4.out.cell 6).trans HQ6.out
             go_wp2
             go_ret
             exact ⟨by rw [hr.out];rfl,below_up HB.out HBo4.out⟩
            | false =>
             have hr:Hid (res=2):=by have h:=HST.out;simp [hoe,hnm,hoi,hz1,hz2,hz3,hn1,hn3] at h;exact h
             have hs1:=HNO1.out hz1
             have hs3:=HNO3.out hz3
             rw [hn1] at hs1
             rw [hn3] at hs3
             have hs1':s1=0:=hs1.2 rfl
             have hs3':(s3 != 0)=true:=by simpa using fun h=>Bool.noConfusion (hs3.1 h)
             clear HST hs1 hs3 HNO1 HNO3
             subst hs1'
             subst hz1 hz2 hz3
             go_wp2_with (first | (refine wpList_load_at rfl 77 _ rfl b (off+k * 7) rfl xc _ HC.out Tryz.underlying77 rfl HSZ.out ?_) | (refine wpList_store_row rfl 77 _ _ rfl wr.heap.size xc rfl rfl 77 #[.string ⟨#[]⟩,.string ⟨#[]⟩,.string ⟨#[]⟩,.string ⟨#[]⟩,.string ⟨#[]⟩,.string ⟨#[]⟩,.string ⟨#[]⟩] HNEW.out HSZ.out HS7.out HONE.out ?_))
             refine (HNM.out _).mono ?_
             rintro e w9 ⟨rfl,rfl⟩
             go_wp2_with fail
             refine (HN1.out _).mono ?_
             rintro e w11 ⟨rfl,hb⟩
             have KO1:=Lib.hid (KO.out.below hb)
             have HBo1:=Lib.hid (below_up HBo.out hb)
             have HXo1:=Lib.hid (HXo.out.below hb)
             clear hb e5 q0 q1 q2 q3 q4 q5 q6 c19
             have c19:=HXo1.out.cell 19
             have e5:=HXo1.out.cell 5
             have q0:=(KO1.out.cell 0).trans HQ0.out
             have q1:=(KO1.out.cell 1).trans HQ1.out
             have q2:=(KO1.out.cell 2).trans HQ2.out
             have q3:=(KO1.out.cell 3).trans HQ3.out
             have q4:=(KO1.out.cell 4).trans HQ4.out
             have q5:=(KO1.out.cell 5).trans HQ5.out
             have q6:=(KO1.out.cell 6).trans HQ6.out
             go_wp2_with fail
             refine (HN2.out _).mono ?_
             rintro e w12 ⟨rfl,hb⟩
             have KO2:=Lib.hid (KO1.out.below hb)
             have HBo2:=Lib.hid (below_up HBo1.out hb)
             have HXo2:=Lib.hid (HXo1.out.below hb)
             clear hb e5 q0 q1 q2 q3 q4 q5 q6 c19
             have c19:=HXo2.out.cell 19
             have e5:=HXo2.out.cell 5
             have q0:=(KO2.out.cell 0).trans HQ0.out
             have q1:=(KO2.out.cell 1).trans HQ1.out
             have q2:=(KO2.out.cell 2).trans HQ2.out
             have q3:=(KO2.out.cell 3).trans HQ3.out
             have q4:=(KO2.out.cell 4).trans HQ4.out
             have q5:=(KO2.out.cell 5).trans HQ5.out
             have q6:=(KO2.out.cell 6).trans HQ6.out
             go_wp2_with fail
             refine (HN3.out _).mono ?_
             rintro e w13 ⟨rfl,hb⟩
             have KO3:=Lib.hid (KO2.out.below hb)
             have HBo3:=Lib.hid (below_up HBo2.out hb)
             have HXo3:=Lib.hid (HXo2.out.below hb)
             clear hb e5 q0 q1 q2 q3 q4 q5 q6 c19
             have c19:=HXo3.out.cell 19
             have e5:=HXo3.out.cell 5
             have q0:=(KO3.out.cell 0).trans HQ0.out
             have q1:=(KO3.out.cell 1).trans HQ1.out
             have q2:=(KO3.out.cell 2).trans HQ2.out
             have q3:=(KO3.out.cell 3).trans HQ3.out
             have q4:=(KO3.out.cell 4).trans HQ4.out
             have q5:=(KO3.out.cell 5).trans HQ5.out
             have q6:=(KO3.out.cell 6).trans HQ6.out
             go_wp2_with fail
             refine (HG1.out _).mono ?_
             rintro e w14 ⟨rfl,hb⟩
             have KO4:=Lib.hid (KO3.out.below hb)
             have HBo4:=Lib.hid (below_up HBo3.out hb)
             have HXo4:=Lib.hid (HXo3.out.below hb)
             clear hb e5 q0 q1 q2 q3 q4 q5 q6 c19
             have c19:=HXo4.out.cell 19
             have e5:=HXo4.out.cell 5
             have q0:=(KO4.out.cell 0).trans HQ0.out
             have q1:=(KO4.out.cell 1).trans HQ1.out
             have q2:=(KO4.out.cell 2).trans HQ2.out
             have q3:=(KO4.out.cell 3).trans HQ3.out
             have q4:=(KO4.out.cell 4).trans HQ4.out
             have q5:=(KO4.out.cell 5).trans HQ5.out
             have q6:=(KO4.out.cell 6).trans HQ6.out
             go_wp2
             go_ret
             exact ⟨by rw [hr.out];rfl,below_up HB.out HBo4.out⟩
           | false =>
            cases hn3:n3 with
            | true =>
             have hr:Hid (res=opts ins (os.drop (k+1))):=by have h:=HST.out;simp [hoe,hnm,hoi,hz1,hz2,hz3,hn1,hn3] at h;exact h
             have hs1:=HNO1.out hz1
             have hs3:=HNO3.out hz3
             rw [hn1] at hs1
             rw [hn3] at hs3
             have hs1':(s1 == 0)=false:=by simpa using fun h=>Bool.noConfusion (hs1.1 h)
             have hs3':s3=0:=hs3.2 rfl
             clear HST hs1 hs3 HNO1 HNO3
             subst hs3'
             subst hz1 hz2 hz3
             go_wp2_with (first | (refine wpList_load_at rfl 77 _ rfl b (off+k * 7) rfl xc _ HC.out Tryz.underlying77 rfl HSZ.out ?_) | (refine wpList_store_row rfl 77 _ _ rfl wr.heap.size xc rfl rfl 77 #[.string ⟨#[]⟩,.string ⟨#[]⟩,.string ⟨#[]⟩,.string ⟨#[]⟩,.string ⟨#[]⟩,.string ⟨#[]⟩,.string ⟨#[]⟩] HNEW.out HSZ.out HS7.out HONE.out ?_))
             refine (HNM.out _).mono ?_
             rintro e w9 ⟨rfl,rfl⟩
             go_wp2_with fail
             refine (HN1.out _).mono ?_
             rintro e w11 ⟨rfl,hb⟩
             have KO1:=Lib.hid (KO.out.below hb)
             have HBo1:=Lib.hid (below_up HBo.out hb)
             have HXo1:=Lib.hid (HXo.out.below hb)
             clear hb e5 q0 q1 q2 q3 q4 q5 q6 c19
             have c19:=HXo1.out.cell 19
             have e5:=HXo1.out.cell 5
             have q0:=(KO1.out.cell 0).trans HQ0.out
             have q1:=(KO1.out.cell 1).trans HQ1.out
             have q2:=(KO1.out.cell 2).trans HQ2.out
             have q3:=(KO1.out.cell 3).trans HQ3.out
             have q4:=(KO1.out.cell 4).trans HQ4.out
             have q5:=(KO1.out.cell 5).trans HQ5.out
             have q6:=(KO1.out.cell 6).trans HQ6.out
             go_wp2_with fail
             refine (HN2.out _).mono ?_
             rintro e w12 ⟨rfl,hb⟩
             have KO2:=Lib.hid (KO1.out.below hb)
             have HBo2:=Lib.hid (below_up HBo1.out hb)
             have HXo2:=Lib.hid (HXo1.out.below hb)
             clear hb e5 q0 q1 q2 q3 q4 q5 q6 c19
             have c19:=HXo2.out.cell 19
             have e5:=HXo2.out.cell 5
             have q0:=(KO2.out.cell 0).trans HQ0.out
             have q1:=(KO2.out.cell 1).trans HQ1.out
             have q2:=(KO2.out.cell 2).trans HQ2.out
             have q3:=(KO2.out.cell 3).trans HQ3.out
             have q4:=(KO2.out.cell 4).trans HQ4.out
             have q5:=(KO2.out.cell 5).trans HQ5.out
             have q6:=(KO2.out.cell 6).trans HQ6.out
             go_wp2_with fail
             refine (HN3.out _).mono ?_
             rintro e w13 ⟨rfl,hb⟩
             have KO3:=Lib.hid (KO2.out.below hb)
             have HBo3:=Lib.hid (below_up HBo2.out hb)
             have HXo3:=Lib.hid (HXo2.out.below hb)
             clear hb e5 q0 q1 q2 q3 q4 q5 q6 c19
             have c19:=HXo3.out.cell 19
             have e5:=HXo3.out.cell 5
             have q0:=(KO3.out.cell 0).trans HQ0.out
             have q1:=(KO3.out.cell 1).trans HQ1.out
             have q2:=(KO3.out.cell 2).trans HQ2.out
             have q3:=(KO3.out.cell 3).trans HQ3.out
             have q4:=(KO3.out.cell 4).trans HQ4.out
             have q5:=(KO3.out.cell 5).trans HQ5.out
             have q6:=(KO3.out.cell 6).trans HQ6.out
             go_wp2_with fail
             refine (HG1.out _).mono ?_
             rintro e w14 ⟨rfl,hb⟩
             have KO4:=Lib.hid (KO3.out.below hb)
             have HBo4:=Lib.hid (below_up HBo3.out hb)
             have HXo4:=Lib.hid (HXo3.out.below hb)
             clear hb e5 q0 q1 q2 q3 q4 q5 q6 c19
             have c19:=HXo4.out.cell 19
             have e5:=HXo4.out.cell 5
             have q0:=(KO4.out.cell 0).trans HQ0.out
             have q1:=(KO4.out.cell 1).trans HQ1.out
             have q2:=(KO4.out.cell 2).trans HQ2.out
             have q3:=(KO4.out.cell 3).trans HQ3.out
             have q4:=(KO4.out.cell 4).trans HQ4.out
             have q5:=(KO4.out.cell 5).trans HQ5.out
             have q6:=(KO4.out.cell 6).trans HQ6.out
             go_wp2
             go_roundw
             case rel=>exact ⟨k+1,by omega,by go_num,hr,HBo4⟩
             case measure=>simp [intOf];omega
            | false =>
             have hr:Hid (res=opts ins (os.drop (k+1))):=by have h:=HST.out;simp [hoe,hnm,hoi,hz1,hz2,hz3,hn1,hn3] at h;exact h
             have hs1:=HNO1.out hz1
             have hs3:=HNO3.out hz3
             rw [hn1] at hs1
             rw [hn3] at hs3
             have hs1':(s1 == 0)=false:=by simpa using fun h=>Bool.noConfusion (hs1.1 h)
             have hs3':(s3 != 0)=true:=by simpa using fun h=>Bool.noConfusion (hs3.1 h)
             clear HST hs1 hs3 HNO1 HNO3
             subst hz1 hz2 hz3
             go_wp2_with (first | (refine wpList_load_at rfl 77 _ rfl b (off+k * 7) rfl xc _ HC.out Tryz.underlying77 rfl HSZ.out ?_) | (refine wpList_store_row rfl 77 _ _ rfl wr.heap.size xc rfl rfl 77 #[.string ⟨#[]⟩,.string ⟨#[]⟩,.string ⟨#[]⟩,.string ⟨#[]⟩,.string ⟨#[]⟩,.string ⟨#[]⟩,.string ⟨#[]⟩] HNEW.out HSZ.out HS7.out HONE.out ?_))
             refine (HNM.out _).mono ?_
             rintro e w9 ⟨rfl,rfl⟩
             go_wp2_with fail
             refine (HN1.out _).mono ?_
             rintro e w11 ⟨rfl,hb⟩
             have KO1:=Lib.hid (KO.out.below hb)
             have HBo1:=Lib.hid (below_up HBo.out hb)
             have HXo1:=Lib.hid (HXo.out.below hb)
             clear hb e5 q0 q1 q2 q3 q4 q5 q6 c19
             have c19:=HXo1.out.cell 19
             have e5:=HXo1.out.cell 5
             have q0:=(KO1.out.cell 0).trans HQ0.out
             have q1:=(KO1.out.cell 1).trans HQ1.out
             have q2:=(KO1.out.cell 2).trans HQ2.out
             have q3:=(KO1.out.cell 3).trans HQ3.out
             have q4:=(KO1.out.cell 4).trans HQ4.out
             have q5:=(KO1.out.cell 5).trans HQ5.out
             have q6:=(KO1.out.cell 6).trans HQ6.out
             go_wp2_with fail
             refine (HN2.out _).mono ?_
             rintro e w12 ⟨rfl,hb⟩
             have KO2:=Lib.hid (KO1.out.below hb)
             have HBo2:=Lib.hid (below_up HBo1.out hb)
             have HXo2:=Lib.hid (HXo1.out.below hb)
             clear hb e5 q0 q1 q2 q3 q4 q5 q6 c19
             have c19:=HXo2.out.cell 19
             have e5:=HXo2.out.cell 5
             have q0:=(KO2.out.cell 0).trans HQ0.out
             have q1:=(KO2.out.cell 1).trans HQ1.out
             have q2:=(KO2.out.cell 2).trans HQ2.out
             have q3:=(KO2.out.cell 3).trans HQ3.out
             have q4:=(KO2.out.cell 4).trans HQ4.out
             have q5:=(KO2.out.cell 5).trans HQ5.out
             have q6:=(KO2.out.cell 6).trans HQ6.out
             go_wp2_with fail
             refine (HN3.out _).mono ?_
             rintro e w13 ⟨rfl,hb⟩
             have KO3:=Lib.hid (KO2.out.below hb)
             have HBo3:=Lib.hid (below_up HBo2.out hb)
             have HXo3:=Lib.hid (HXo2.out.below hb)
             clear hb e5 q0 q1 q2 q3 q4 q5 q6 c19
             have c19:=HXo3.out.cell 19
             have e5:=HXo3.out.cell 5
             have q0:=(KO3.out.cell 0).trans HQ0.out
             have q1:=(KO3.out.cell 1).trans HQ1.out
             have q2:=(KO3.out.cell 2).trans HQ2.out
             have q3:=(KO3.out.cell 3).trans HQ3.out
             have q4:=(KO3.out.cell 4).trans HQ4.out
             have q5:=(KO3.out.cell 5).trans HQ5.out
             have q6:=(KO3.out.cell 6).trans HQ6.out
             go_wp2_with fail
             refine (HG1.out _).mono ?_
             rintro e w14 ⟨rfl,hb⟩
             have KO4:=Lib.hid (KO3.out.below hb)
             have HBo4:=Lib.hid (below_up HBo3.out hb)
             have HXo4:=Lib.hid (HXo3.out.below hb)
             clear hb e5 q0 q1 q2 q3 q4 q5 q6 c19
             have c19:=HXo4.out.cell 19
             have e5:=HXo4.out.cell 5
             have q0:=(KO4.out.cell 0).trans HQ0.out
             have q1:=(KO4.out.cell 1).trans HQ1.out
             have q2:=(KO4.out.cell 2).trans HQ2.out
             have q3:=(KO4.out.cell 3).trans HQ3.out
             have q4:=(KO4.out.cell 4).trans HQ4.out
             have q5:=(KO4.out.cell 5).trans HQ5.out
             have q6:=(KO4.out.cell 6).trans HQ6.out
             go_wp2
             go_roundw
             case rel=>exact ⟨k+1,by omega,by go_num,hr,HBo4⟩
             case measure=>simp [intOf];omega
          ·have hr:Hid (res=z3):=by have h:=HST.out;simp [hoe,hnm,hoi,hz1,hz2,hz3] at h;exact h
           have hzb:(z3 != 0)=true:=by simpa using hz3
           clear HST HNO1 HNO3 hz3
           subst hz1
           subst hz2
           go_wp2_with (first | (refine wpList_load_at rfl 77 _ rfl b (off+k * 7) rfl xc _ HC.out Tryz.underlying77 rfl HSZ.out ?_) | (refine wpList_store_row rfl 77 _ _ rfl wr.heap.size xc rfl rfl 77 #[.string ⟨#[]⟩,.string ⟨#[]⟩,.string ⟨#[]⟩,.string ⟨#[]⟩,.string ⟨#[]⟩,.string ⟨#[]⟩,.string ⟨#[]⟩] HNEW.out HSZ.out HS7.out HONE.out ?_))
           refine (HNM.out _).mono ?_
           rintro e w9 ⟨rfl,rfl⟩
           go_wp2_with fail
           refine (HN1.out _).mono ?_
           rintro e w11 ⟨rfl,hb⟩
           have KO1:=Lib.hid (KO.out.below hb)
           have HBo1:=Lib.hid (below_up HBo.out hb)
           have HXo1:=Lib.hid (HXo.out.below hb)
           clear hb e5 q0 q1 q2 q3 q4 q5 q6 c19
           have c19:=HXo1.out.cell 19
           have e5:=HXo1.out.cell 5
           have q0:=(KO1.out.cell 0).trans HQ0.out
           have q1:=(KO1.out.cell 1).trans HQ1.out
           have q2:=(KO1.out.cell 2).trans HQ2.out
           have q3:=(KO1.out.cell 3).trans HQ3.out
           have q4:=(KO1.out.cell 4).trans HQ4.out
           have q5:=(KO1.out.cell 5).trans HQ5.out
           have q6:=(KO1.out.cell 6).trans HQ6.out
           go_wp2_with fail
           refine (HN2.out _).mono ?_
           rintro e w12 ⟨rfl,hb⟩
           have KO2:=Lib.hid (KO1.out.below hb)
           have HBo2:=Lib.hid (below_up HBo1.out hb)
           have HXo2:=Lib.hid (HXo1.out.below hb)
           clear hb e5 q0 q1 q2 q3 q4 q5 q6 c19
           have c19:=HXo2.out.cell 19
           have e5:=HXo2.out.cell 5
           have q0:=(KO2.out.cell 0).trans HQ0.out
           have q1:=(KO2.out.cell 1).trans HQ1.out
           have q2:=(KO2.out.cell 2).trans HQ2.out
           have q3:=(KO2.out.cell 3).trans HQ3.out
           have q4:=(KO2.out.cell 4).trans HQ4.out
           have q5:=(KO2.out.cell 5).trans HQ5.out
           have q6:=(KO2.out.cell 6).trans HQ6.out
           go_wp2_with fail
           refine (HN3.out _).mono ?_
           rintro e w13 ⟨rfl,hb⟩
           have KO3:=Lib.hid (KO2.out.below hb)
           have HBo3:=Lib.hid (below_up HBo2.out hb)
           have HXo3:=Lib.hid (HXo2.out.below hb)
           clear hb e5 q0 q1 q2 q3 q4 q5 q6 c19
           have c19:=HXo3.out.cell 19
           have e5:=HXo3.out.cell 5
           have q0:=(KO3.out.cell 0).trans HQ0.out
           have q1:=(KO3.out.cell 1).trans HQ1.out
           have q2:=(KO3.out.cell 2).trans HQ2.out
           have q3:=(KO3.out.cell 3).trans HQ3.out
           have q4:=(KO3.out.cell 4).trans HQ4.out
           have q5:=(KO3.out.cell 5).trans HQ5.out
           have q6:=(KO3.out.cell 6).trans HQ6.out
           go_wp2
           go_ret
           exact ⟨by rw [hr.out];rfl,below_up HB.out HBo3.out⟩
         ·have hr:Hid (res=z2):=by have h:=HST.out;simp [hoe,hnm,hoi,hz1,hz2] at h;exact h
          have hzb:(z2 != 0)=true:=by simpa using hz2
          clear HST HNO1 HNO3 hz2
          subst hz1
          go_wp2_with (first | (refine wpList_load_at rfl 77 _ rfl b (off+k * 7) rfl xc _ HC.out Tryz.underlying77 rfl HSZ.out ?_) | (refine wpList_store_row rfl 77 _ _ rfl wr.heap.size xc rfl rfl 77 #[.string ⟨#[]⟩,.string ⟨#[]⟩,.string ⟨#[]⟩,.string ⟨#[]⟩,.string ⟨#[]⟩,.string ⟨#[]⟩,.string ⟨#[]⟩] HNEW.out HSZ.out HS7.out HONE.out ?_))
          refine (HNM.out _).mono ?_
          rintro e w9 ⟨rfl,rfl⟩
          go_wp2_with fail
          refine (HN1.out _).mono ?_
          rintro e w11 ⟨rfl,hb⟩
          have KO1:=Lib.hid (KO.out.below hb)
          have HBo1:=Lib.hid (below_up HBo.out hb)
          have HXo1:=Lib.hid (HXo.out.below hb)
          clear hb e5 q0 q1 q2 q3 q4 q5 q6 c19
          have c19:=HXo1.out.cell 19
          have e5:=HXo1.out.cell 5
          have q0:=(KO1.out.cell 0).trans HQ0.out
          have q1:=(KO1.out.cell 1).trans HQ1.out
          have q2:=(KO1.out.cell 2).trans HQ2.out
          have q3:=(KO1.out.cell 3).trans HQ3.out
          have q4:=(KO1.out.cell 4).trans HQ4.out
          have q5:=(KO1.out.cell 5).trans HQ5.out
          have q6:=(KO1.out.cell 6).trans HQ6.out
          go_wp2_with fail
          refine (HN2.out _).mono ?_
          rintro e w12 ⟨rfl,hb⟩
          have KO2:=Lib.hid (KO1.out.below hb)
          have HBo2:=Lib.hid (below_up HBo1.out hb)
          have HXo2:=Lib.hid (HXo1.out.below hb)
          clear hb e5 q0 q1 q2 q3 q4 q5 q6 c19
          have c19:=HXo2.out.cell 19
          have e5:=HXo2.out.cell 5
          have q0:=(KO2.out.cell 0).trans HQ0.out
          have q1:=(KO2.out.cell 1).trans HQ1.out
          have q2:=(KO2.out.cell 2).trans HQ2.out
          have q3:=(KO2.out.cell 3).trans HQ3.out
          have q4:=(KO2.out.cell 4).trans HQ4.out
          have q5:=(KO2.out.cell 5).trans HQ5.out
          have q6:=(KO2.out.cell 6).trans HQ6.out
          go_wp2
          go_ret
          exact ⟨by rw [hr.out];rfl,below_up HB.out HBo2.out⟩
        ·have hr:Hid (res=z1):=by have h:=HST.out;simp [hoe,hnm,hoi,hz1] at h;exact h
         have hzb:(z1 != 0)=true:=by simpa using hz1
         clear HST HNO1 HNO3 hz1
         go_wp2_with (first | (refine wpList_load_at rfl 77 _ rfl b (off+k * 7) rfl xc _ HC.out Tryz.underlying77 rfl HSZ.out ?_) | (refine wpList_store_row rfl 77 _ _ rfl wr.heap.size xc rfl rfl 77 #[.string ⟨#[]⟩,.string ⟨#[]⟩,.string ⟨#[]⟩,.string ⟨#[]⟩,.string ⟨#[]⟩,.string ⟨#[]⟩,.string ⟨#[]⟩] HNEW.out HSZ.out HS7.out HONE.out ?_))
         refine (HNM.out _).mono ?_
         rintro e w9 ⟨rfl,rfl⟩
         go_wp2_with fail
         refine (HN1.out _).mono ?_
         rintro e w11 ⟨rfl,hb⟩
         have KO1:=Lib.hid (KO.out.below hb)
         have HBo1:=Lib.hid (below_up HBo.out hb)
         have HXo1:=Lib.hid (HXo.out.below hb)
         clear hb e5 q0 q1 q2 q3 q4 q5 q6 c19
         have c19:=HXo1.out.cell 19
         have e5:=HXo1.out.cell 5
         have q0:=(KO1.out.cell 0).trans HQ0.out
         have q1:=(KO1.out.cell 1).trans HQ1.out
         have q2:=(KO1.out.cell 2).trans HQ2.out
         have q3:=(KO1.out.cell 3).trans HQ3.out
         have q4:=(KO1.out.cell 4).trans HQ4.out
         have q5:=(KO1.out.cell 5).trans HQ5.out
         have q6:=(KO1.out.cell 6).trans HQ6.out
         go_wp2
         go_ret
         exact ⟨by rw [hr.out];rfl,below_up HB.out HBo1.out⟩
    ·obtain rfl:k=os.length:=by omega
     have hr:Hid (res=0):=by have h:=HP.out;rw [List.drop_of_length_le (Nat.le_refl _)] at h;exact h
     clear HP
     go_wp2
     go_ret
     exact ⟨by rw [hr.out];rfl,below_up HB.out HW.out⟩
end Go.Proofs.YtgopbldkhlmbnaaGreatDoor
