/- RZero RKind ROther RLotId RPicks -/
import Derived.Test.YthjekgfoidmagaaGreatDoorURFrac
import Derived.Test.YthjekgfoidmagaaGreatDoorUGreat2
set_option maxHeartbeats 16000000
set_option maxRecDepth 100000
namespace Go.Proofs.YthjekgfoidmagaaGreatDoor
open Go.Proofs.Tryz
section
open Go.RowKit Num
theorem bYc(f:aE)(pa oa:Option Addr)(pc oc:Nat)(i:Nat)(hi:i<13)(w:World):
  Calls prog 38 #[.agg (f.cells pa pc oa oc),.int .i64 (i:Int)] w fun e w'=>e=.returned (.bool (f.zero i))/\Below w.heap.size w w':=by
 have hm:i=0∨i=1∨i=2∨i=3∨i=4∨i=5∨i=6∨i=7∨i=8∨i=9∨i=10∨i=11∨i=12:=by omega
 clear hi;unfold aE.zero aE.cells aE.num bZ.none;obtain⟨key,stamp,cancelled,day,kind,ins,other,cur,target,fq,amt,fee,⟨pn,pd⟩,⟨rn,rd⟩,⟨sn,sd⟩,picks,os,choice⟩:=f;dsimp only;rw[bAy,bAy,bBn];rcases hm with rfl|rfl|rfl|rfl|rfl|rfl|rfl|rfl|rfl|rfl|rfl|rfl|rfl
 all_goals simp only[Nat.reduceEqDiff,if_true,if_false]
 cases h:ins.isEmpty
 rotate_left 2
 cases h:other.isEmpty
 rotate_left 2
 cases h:cur.isEmpty
 rotate_left 2
 cases h:target.isEmpty
 rotate_left 2
 cases h:fq.isEmpty
 rotate_left 2
 cases h:amt.isEmpty
 rotate_left 2
 cases h:fee.isEmpty
 rotate_left 2
 cases pn <;> cases pd
 rotate_left 4
 cases rn <;> cases rd
 rotate_left 4
 cases sn <;> cases sd
 rotate_left 4
 cases h:((picks.length:Int)==0)
 rotate_left 2
 cases h:((os.length:Int)==0)
 rotate_left 2
 cases h:(choice==0)
 all_goals
  go_enter func38,ntmps38;go_wp2;go_ret;exact⟨by first|rfl|simp[h]|simp,aB w _⟩
end
section
open Go Go.RowKit Num
def lY(k:Int):List Int:=if k=1 then[2,5] else if k=2 then[2,5] else if k=3 then[0,4,5,6] else if k=4 then[0,4,5,6,10] else if k=5 then[0,7] else if k=6 then[2,5] else if k=7 then[1,2,4,5] else if k=8 then[0,7,8] else if k=9 then[0,1,7,8,9] else if k=10 then[0,11] else if k=11 then[0,3,12] else if k=12 then[0,1,4,7,8] else if k=13 then[0,7] else if k=14 then[0,7] else if k=15 then[0,7] else if k=16 then[1,2,8] else if k=17 then[2,5] else if k=18 then[2,5] else[]
def tE(k:Int):List UInt8:=if k=1 then[100,101,112,111,115,105,116] else if k=2 then[119,105,116,104,100,114,97,119] else if k=3 then[98,117,121] else if k=4 then[115,101,108,108] else if k=5 then[105,110,99,111,109,101] else if k=6 then[101,120,112,101,110,115,101] else if k=7 then[99,111,110,118,101,114,116] else if k=8 then[115,112,108,105,116] else if k=9 then[115,112,105,110,111,102,102] else if k=10 then[101,120,99,104,97,110,103,101] else if k=11 then[101,108,101,99,116] else if k=12 then[101,120,101,114,99,105,115,101] else if k=13 then[99,97,112,105,116,97,108] else if k=14 then[99,97,108,108] else if k=15 then[112,114,105,99,101] else if k=16 then[114,97,116,101] else if k=17 then[105,115,115,117,101] else if k=18 then[99,97,110,99,101,108] else[]
theorem jV(k:Int):k=1∨k=2∨k=3∨k=4∨k=5∨k=6∨k=7∨k=8∨k=9∨k=10∨k=11∨k=12∨k=13∨k=14∨k=15∨k=16∨k=17∨k=18∨((k==1)=false/\(k==2)=false/\(k==3)=false/\(k==4)=false/\(k==5)=false/\(k==6)=false/\(k==7)=false/\(k==8)=false/\(k==9)=false/\(k==10)=false/\(k==11)=false/\(k==12)=false/\(k==13)=false/\(k==14)=false/\(k==15)=false/\(k==16)=false/\(k==17)=false/\(k==18)=false):=by
 simp only[beq_eq_false_iff_ne,ne_eq];omega
theorem Rs(k:Int)(w:World):Calls prog 40 #[.int .i64 k] w fun e w'=>e=.returned (.string ⟨(tE k).toArray⟩)/\w'=w:=by
 rcases jV k with rfl|rfl|rfl|rfl|rfl|rfl|rfl|rfl|rfl|rfl|rfl|rfl|rfl|rfl|rfl|rfl|rfl|rfl|⟨h1,h2,h3,h4,h5,h6,h7,h8,h9,h10,h11,h12,h13,h14,h15,h16,h17,h18⟩
 ·go_enter func40,ntmps40;go_wp2;go_ret;exact⟨rfl,rfl⟩
 ·go_enter func40,ntmps40;go_wp2;go_ret;exact⟨rfl,rfl⟩
 ·go_enter func40,ntmps40;go_wp2;go_ret;exact⟨rfl,rfl⟩
 ·go_enter func40,ntmps40;go_wp2;go_ret;exact⟨rfl,rfl⟩
 ·go_enter func40,ntmps40;go_wp2;go_ret;exact⟨rfl,rfl⟩
 ·go_enter func40,ntmps40;go_wp2;go_ret;exact⟨rfl,rfl⟩
 ·go_enter func40,ntmps40;go_wp2;go_ret;exact⟨rfl,rfl⟩
 ·go_enter func40,ntmps40;go_wp2;go_ret;exact⟨rfl,rfl⟩
 ·go_enter func40,ntmps40;go_wp2;go_ret;exact⟨rfl,rfl⟩
 ·go_enter func40,ntmps40;go_wp2;go_ret;exact⟨rfl,rfl⟩
 ·go_enter func40,ntmps40;go_wp2;go_ret;exact⟨rfl,rfl⟩
 ·go_enter func40,ntmps40;go_wp2;go_ret;exact⟨rfl,rfl⟩
 ·go_enter func40,ntmps40;go_wp2;go_ret;exact⟨rfl,rfl⟩
 ·go_enter func40,ntmps40;go_wp2;go_ret;exact⟨rfl,rfl⟩
 ·go_enter func40,ntmps40;go_wp2;go_ret;exact⟨rfl,rfl⟩
 ·go_enter func40,ntmps40;go_wp2;go_ret;exact⟨rfl,rfl⟩
 ·go_enter func40,ntmps40;go_wp2;go_ret;exact⟨rfl,rfl⟩
 ·go_enter func40,ntmps40;go_wp2;go_ret;exact⟨rfl,rfl⟩
 ·have e:tE k=[]:=by
   unfold tE;simp only[beq_eq_false_iff_ne,ne_eq] at *;simp[*]
  rw[e];clear e;go_enter func40,ntmps40;go_wp2;go_ret;exact⟨rfl,rfl⟩
theorem eH(w:World)(zs:List Int):Mx (w.alloc (.cells (zs.map (Value.int .i64)).toArray 3)) (some ⟨w.heap.size,0,none⟩) zs:=by
 refine .inr ⟨w.heap.size,0,rfl,by simp,fun k z hz=>?_⟩;rw[Nat.zero_add,aS (heap_alloc_new w _)];simp[hz]
theorem Jc(k:Int)(w:World):Calls prog 63 #[.int .i64 k] w fun e w'=>(∃a c,e=.returned (.slice a (lY k).length c)/\Mx w' a (lY k))/\Below w.heap.size w w':=by
 rcases jV k with rfl|rfl|rfl|rfl|rfl|rfl|rfl|rfl|rfl|rfl|rfl|rfl|rfl|rfl|rfl|rfl|rfl|rfl|⟨h1,h2,h3,h4,h5,h6,h7,h8,h9,h10,h11,h12,h13,h14,h15,h16,h17,h18⟩
 ·go_enter func63,ntmps63;go_wp2;go_ret;exact⟨⟨_,_,rfl,eH w [2,5]⟩,aB w _⟩
 ·go_enter func63,ntmps63;go_wp2;go_ret;exact⟨⟨_,_,rfl,eH w [2,5]⟩,aB w _⟩
 ·go_enter func63,ntmps63;go_wp2;go_ret;exact⟨⟨_,_,rfl,eH w [0,4,5,6]⟩,aB w _⟩
 ·go_enter func63,ntmps63;go_wp2;go_ret;exact⟨⟨_,_,rfl,eH w [0,4,5,6,10]⟩,aB w _⟩
 ·go_enter func63,ntmps63;go_wp2;go_ret;exact⟨⟨_,_,rfl,eH w [0,7]⟩,aB w _⟩
 ·go_enter func63,ntmps63;go_wp2;go_ret;exact⟨⟨_,_,rfl,eH w [2,5]⟩,aB w _⟩
 ·go_enter func63,ntmps63;go_wp2;go_ret;exact⟨⟨_,_,rfl,eH w [1,2,4,5]⟩,aB w _⟩
 ·go_enter func63,ntmps63;go_wp2;go_ret;exact⟨⟨_,_,rfl,eH w [0,7,8]⟩,aB w _⟩
 ·go_enter func63,ntmps63;go_wp2;go_ret;exact⟨⟨_,_,rfl,eH w [0,1,7,8,9]⟩,aB w _⟩
 ·go_enter func63,ntmps63;go_wp2;go_ret;exact⟨⟨_,_,rfl,eH w [0,11]⟩,aB w _⟩
 ·go_enter func63,ntmps63;go_wp2;go_ret;exact⟨⟨_,_,rfl,eH w [0,3,12]⟩,aB w _⟩
 ·go_enter func63,ntmps63;go_wp2;go_ret;exact⟨⟨_,_,rfl,eH w [0,1,4,7,8]⟩,aB w _⟩
 ·go_enter func63,ntmps63;go_wp2;go_ret;exact⟨⟨_,_,rfl,eH w [0,7]⟩,aB w _⟩
 ·go_enter func63,ntmps63;go_wp2;go_ret;exact⟨⟨_,_,rfl,eH w [0,7]⟩,aB w _⟩
 ·go_enter func63,ntmps63;go_wp2;go_ret;exact⟨⟨_,_,rfl,eH w [0,7]⟩,aB w _⟩
 ·go_enter func63,ntmps63;go_wp2;go_ret;exact⟨⟨_,_,rfl,eH w [1,2,8]⟩,aB w _⟩
 ·go_enter func63,ntmps63;go_wp2;go_ret;exact⟨⟨_,_,rfl,eH w [2,5]⟩,aB w _⟩
 ·go_enter func63,ntmps63;go_wp2;go_ret;exact⟨⟨_,_,rfl,eH w [2,5]⟩,aB w _⟩
 ·have e:lY k=[]:=by
   unfold lY;simp only[beq_eq_false_iff_ne,ne_eq] at *;simp[*]
  rw[e];clear e;go_enter func63,ntmps63;go_wp2;go_ret;exact⟨⟨_,_,rfl,.inl rfl⟩,Br _ _⟩
theorem Ge(k:Int):(lY k).length<=13:=by
 rcases jV k with rfl|rfl|rfl|rfl|rfl|rfl|rfl|rfl|rfl|rfl|rfl|rfl|rfl|rfl|rfl|rfl|rfl|rfl|⟨h1,h2,h3,h4,h5,h6,h7,h8,h9,h10,h11,h12,h13,h14,h15,h16,h17,h18⟩
 all_goals first
  |decide
  |skip
 unfold lY;simp only[beq_eq_false_iff_ne,ne_eq] at *;simp[*]
theorem Wb(k:Int)(i:Nat)(w:World):Calls prog 41 #[.int .i64 k,.int .i64 (i:Int)] w fun e w'=>e=.returned (.bool ((lY k).contains (i:Int)))/\Below w.heap.size w w':=by
 have HF:=Hd (fun W=>Jc k W);have hln:=Ge k;generalize lY k=zs at *;go_enter func41,ntmps41;go_wp2_with fail;refine(HF.out _).mono ?_;rintro e w1 ⟨⟨a,c,rfl,hz⟩,hb⟩;have HZ:=Hd hz;have HB:=Hd hb;clear hz hb HF;go_wp2_with fail;go_loopw [6] (fun jv W=>∃j:Nat,j<=zs.length/\jv=.int .i64 (j:Int)/\Hid ((zs.take j).contains (i:Int)=false)/\Hid (Below w1.heap.size w1 W)) (fun jv _=>zs.length-(intOf jv).toNat)
 case atStart=>exact⟨0,Nat.zero_le _,rfl,by show _=_;simp,Br _ _⟩
 case round =>
  obtain⟨j,hj,rfl,HN,HW⟩:=hrel
  by_cases hlt:j<zs.length
  ·obtain⟨z,hz⟩:∃z,zs[j]?=some z:=⟨_,Lg hlt⟩
   obtain⟨b,off,rfl,c1⟩:=(HZ.out.below HW.out).addr hz
   by_cases hzi:z=(i:Int)
   ·have HT:Hid (zs.contains (i:Int)=true):=by show _=_;rw[List.contains_iff_mem,<-hzi];exact List.mem_of_getElem? hz
    have hzb:(z==(i:Int))=true:=by simpa using hzi
    clear hz HN;subst hzi;go_wp2;go_ret;exact⟨by rw[HT.out];rfl,aA HB.out HW.out⟩
   ·have HT:Hid ((zs.take (j+1)).contains (i:Int)=false):=by
     show _=_;rw[List.take_add_one,hz,Bool.eq_false_iff];intro h;rw[List.contains_iff_mem,List.mem_append] at h;rcases h with h|h
     ·have h2:=HN.out;rw[Bool.eq_false_iff] at h2;exact h2 (List.contains_iff_mem.2 h)
     ·simp at h;exact hzi h.symm
    have hzb:(z==(i:Int))=false:=by simpa using hzi
    clear hz hzi HN;go_wp2;go_roundw
    case rel=>exact⟨j+1,by omega,by go_num,HT,HW⟩
    case measure=>simp[intOf];omega
  ·obtain rfl:j=zs.length:=by omega
   have HT:Hid (zs.contains (i:Int)=false):=by have h:=HN.out;rw[List.take_length] at h;exact h
   go_wp2;go_ret;exact⟨by rw[HT.out];rfl,aA HB.out HW.out⟩
theorem Cw(k:Int):(aX.find? (fun p=>p.1==k)=none/\tE k=[])∨∃p,aX.find? (fun p=>p.1==k)=some p/\tE k ≠ []/\∀i:Nat,i<13->(lY k).contains (i:Int)=p.2.has.getD i false:=by
 rcases jV k with rfl|rfl|rfl|rfl|rfl|rfl|rfl|rfl|rfl|rfl|rfl|rfl|rfl|rfl|rfl|rfl|rfl|rfl|⟨h1,h2,h3,h4,h5,h6,h7,h8,h9,h10,h11,h12,h13,h14,h15,h16,h17,h18⟩
 all_goals first
  |exact .inr ⟨_,rfl,by decide,by decide⟩
  |skip
 left;refine⟨?_,?_⟩
 ·rw[List.find?_eq_none];intro p hp;have hm:p.1∈aX.map Prod.fst:=List.mem_map.2 ⟨p,hp,rfl⟩;have hk:aX.map Prod.fst=[1,2,3,4,5,6,7,8,9,10,11,12,13,14,15,16,17,18]:=rfl;rw[hk] at hm;simp only[List.mem_cons,List.not_mem_nil,or_false] at hm;intro he;simp only[beq_iff_eq] at he;simp only[beq_eq_false_iff_ne,ne_eq] at *;omega
 ·unfold tE;simp only[beq_eq_false_iff_ne,ne_eq] at *;simp[*]
theorem Fl(k:Int)(w:World):Calls prog 151 #[.int .i64 k] w fun e w'=>e=.returned (.bool (decide (k=7∨k=16)))/\w'=w:=by
 by_cases h1:k=7
 ·subst h1;go_enter func151,ntmps151;go_wp2;go_ret;exact⟨rfl,rfl⟩
 ·by_cases h2:k=16
  ·subst h2;go_enter func151,ntmps151;go_wp2;go_ret;exact⟨rfl,rfl⟩
  ·rw[decide_eq_false (by omega)];have e1:(k==7)=false:=by simpa using h1
   have e2:(k==16)=false:=by simpa using h2
   go_enter func151,ntmps151;go_wp2;go_ret;exact⟨by first|rfl|simp[h1,h2],rfl⟩
end
section
open Go Go.RowKit Num
theorem De(l:List UInt8)(w:World)(hl:l.length<=1000):
  Calls prog 97 #[.string ⟨l.toArray⟩] w fun e w'=>e=.returned (.bool (fV l))/\w'=w:=by
 go_enter func97,ntmps97;go_wp2;go_loop [3] (fun i=>∃k:Nat,k<=l.length/\i=.int .i64 (k:Int)/\Hid (∀j,j<k->Nk (l.getD j 0)=true)) (fun i=>l.length-(intOf i).toNat)
 case atStart=>exact⟨0,Nat.zero_le _,rfl,fun j hj=>absurd hj (Nat.not_lt_zero j)⟩
 case round =>
  obtain⟨k,hk,rfl,hp⟩:=hrel
  by_cases hlt:k<l.length
  ·have hsz:k<(⟨l.toArray⟩:ByteArray).size:=by rw[aV];exact hlt
   have hgk:=Hd (congrArg UInt8.toNat (gF l k hsz));have hfal:=Hd (fun h=>fP (p:=Nk) hlt h);have hstep:=Hd (fun (h:Nk (l.getD k 0)=true) j (hj:j<k+1)=>show Nk (l.getD j 0)=true by
    rcases Nat.lt_or_ge j k with g|g
    ·exact hp.out j g
    ·obtain rfl:j=k:=by omega
     exact h)
   have hdef:=Hd (show Nk (l.getD k 0)=(decide (65<=(l.getD k 0).toNat)&&decide ((l.getD k 0).toNat<=90)) from rfl);rcases(show ((⟨l.toArray⟩:ByteArray)[k]'hsz).toNat<65∨90<((⟨l.toArray⟩:ByteArray)[k]'hsz).toNat∨(65<=((⟨l.toArray⟩:ByteArray)[k]'hsz).toNat/\((⟨l.toArray⟩:ByteArray)[k]'hsz).toNat<=90) by omega) with g1|g1|⟨g1,g2⟩
   ·have n1:(((⟨l.toArray⟩:ByteArray)[k]'hsz).toNat:Int)<65:=by omega
    have e1:Nk (l.getD k 0)=false:=by rw[hdef.out,<-hgk.out];simp <;> omega
    have hs2:=Hd (hfal.out e1);clear hstep hfal hdef e1 hgk;go_wp2;go_ret;exact⟨dG (by unfold fV;rw[hs2.out];simp),rfl⟩
   ·have n1:¬ (((⟨l.toArray⟩:ByteArray)[k]'hsz).toNat:Int)<65:=by omega
    have n2:(90:Int)<((⟨l.toArray⟩:ByteArray)[k]'hsz).toNat:=by omega
    have e1:Nk (l.getD k 0)=false:=by rw[hdef.out,<-hgk.out];simp <;> omega
    have hs2:=Hd (hfal.out e1);clear hstep hfal hdef e1 hgk;go_wp2;go_ret;exact⟨dG (by unfold fV;rw[hs2.out];simp),rfl⟩
   ·have n1:¬ (((⟨l.toArray⟩:ByteArray)[k]'hsz).toNat:Int)<65:=by omega
    have n2:¬ (90:Int)<((⟨l.toArray⟩:ByteArray)[k]'hsz).toNat:=by omega
    have e1:Nk (l.getD k 0)=true:=by rw[hdef.out,<-hgk.out];simp <;> omega
    have hs2:=Hd (hstep.out e1);clear hstep hfal hdef e1 hgk;go_wp2;go_round
    case rel=>exact⟨k+1,by omega,by go_num,hs2⟩
    case measure=>simp[intOf];omega
  ·obtain rfl:k=l.length:=by omega
   have hall:l.all Nk=true:=by
    rw[List.all_eq_true];intro x hx;obtain⟨j,hj,e⟩:=List.mem_iff_getElem.1 hx;have:=hp.out j hj;rw[List.getD_eq_getElem?_getD,Lg hj,e] at this;exact this
   have hc:fV l=decide (l.length=3):=by unfold fV;rw[hall,Bool.and_true]
   have HC:=Hd hc;clear hall hc;go_wp2;go_ret;exact⟨dG (by rw[HC.out,Bool.eq_iff_iff];first|(simp only[beq_iff_eq,decide_eq_true_eq];omega)|skip),rfl⟩
theorem Mr(f:aE)(pa oa:Option Addr)(pc oc:Nat)(w:World)(ho:f.other.length<=1000):
  Calls prog 96 #[.agg (f.cells pa pc oa oc)] w fun e w'=>e=.returned (.int .i64 (gM f (decide (f.kind=7∨f.kind=16))))/\Below w.heap.size w w':=by
 obtain⟨key,stamp,cancelled,day,kind,ins,other,cur,target,fq,amt,fee,price,ratio,share,picks,os,choice⟩:=f;unfold gM;unfold aE.cells;dsimp only at ho ⊢;have H1:=Hd (fun W=>Fl kind W);have H2:=Hd (fun W=>De other W ho);have H3:=Hd (fun W=>mL other W (by omega));generalize decide (kind=7∨kind=16)=b at *;cases b
 ·simp only[Bool.false_eq_true,if_false];generalize dC other=nm at *;cases nm
  ·go_enter func96,ntmps96;go_wp2_with fail;refine(H1.out _).mono ?_;rintro e w1 ⟨rfl,rfl⟩;go_wp2_with fail;refine(H3.out _).mono ?_;rintro e w1 ⟨rfl,rfl⟩;go_wp2;go_ret;exact⟨rfl,aB w _⟩
  ·simp only[if_true];cases hq:(other==ins)
   all_goals
    go_enter func96,ntmps96;go_wp2_with fail;refine(H1.out _).mono ?_;rintro e w1 ⟨rfl,rfl⟩;go_wp2_with fail;refine(H3.out _).mono ?_;rintro e w1 ⟨rfl,rfl⟩;go_wp2;go_ret;exact⟨rfl,aB w _⟩
 ·simp only[if_true];generalize fV other=nm at *;cases nm
  ·go_enter func96,ntmps96;go_wp2_with fail;refine(H1.out _).mono ?_;rintro e w1 ⟨rfl,rfl⟩;go_wp2_with fail;refine(H2.out _).mono ?_;rintro e w1 ⟨rfl,rfl⟩;go_wp2;go_ret;exact⟨rfl,aB w _⟩
  ·simp only[if_true];cases hq:(other==cur)
   all_goals
    go_enter func96,ntmps96;go_wp2_with fail;refine(H1.out _).mono ?_;rintro e w1 ⟨rfl,rfl⟩;go_wp2_with fail;refine(H2.out _).mono ?_;rintro e w1 ⟨rfl,rfl⟩;go_wp2;go_ret;exact⟨rfl,aB w _⟩
theorem Ms(w:World):
  Calls prog 159 #[.string ⟨([49]:List UInt8).toArray⟩,.string ⟨([49]:List UInt8).toArray⟩] w fun e w'=>e=.returned (.tuple #[.agg #[.string ⟨([49]:List UInt8).toArray⟩,.string ⟨#[]⟩],.int .i64 0])/\Below w.heap.size w w':=by
 have HZ:=Hd (fun W=>vN [49] W (by simp));have HC:=Hd (fun W=>xS [49] [49] W (by simp) (by simp) (by rw[jB];decide) (by rw[jB];decide));have hden:lU [49]=1:=by unfold lU;rw[jB];rfl
 rw[jB] at HZ HC;rw[hden,Gd,Gh,mK,oO] at HC;have hb0:decide ((1:Int)=0)=false:=rfl;rw[hb0] at HZ;have HX:=Hd (aP.new0 w #[.string ⟨#[]⟩,.string ⟨#[]⟩] 25);have HB:=Hd (aB w (.cells #[.string ⟨#[]⟩,.string ⟨#[]⟩] 25));clear hden hb0;go_enter func159,ntmps159;go_wp2_with fail;refine(HZ.out _).mono ?_;rintro e w1 ⟨rfl,rfl⟩;go_wp2_with fail;refine(HC.out _).mono ?_;rintro e w1 ⟨rfl,hb⟩;have HX1:=Hd (HX.out.below hb);have HB1:=Hd (aA HB.out hb);have k0:=HX1.out.cell 0;have k1:=HX1.out.cell 1;have f0:=aR HX1.out.2 0;have f1:=aR HX1.out.2 1;clear hb HX;go_wp2;refine bodyPost_ret (v:=.tuple #[.agg #[.string ⟨([49]:List UInt8).toArray⟩,.string ⟨#[]⟩],.int .i64 0]) (by simp[results,results159,go_sem,k0,k1]) rfl ⟨rfl,?_⟩;exact(HB1.out.setCell (p:=⟨w.heap.size,0,none⟩) (Nl _) _).setCell (p:=⟨w.heap.size,1,none⟩) (Nl _) _
theorem Fj(w:World):
  Calls prog 102 #[.int .i64 1,.int .i64 1] w fun e w'=>e=.returned (.agg #[.string ⟨([49]:List UInt8).toArray⟩,.string ⟨#[]⟩])/\Below w.heap.size w w':=by
 have HO:=Hd (fun W=>nS 1 (by decide) (by decide) W);rw[mK] at HO;have HN:=Hd (fun W=>Ms W);have HX:=Hd (aP.new0 w #[.string ⟨#[]⟩,.string ⟨#[]⟩] 25);have HB:=Hd (aB w (.cells #[.string ⟨#[]⟩,.string ⟨#[]⟩] 25));go_enter func102,ntmps102;go_wp2_with fail;refine(HO.out _).mono ?_;rintro e w1 ⟨rfl,rfl⟩;go_wp2_with fail;refine(HO.out _).mono ?_;rintro e w1 ⟨rfl,rfl⟩;go_wp2_with fail;refine(HN.out _).mono ?_;rintro e w2 ⟨rfl,hb⟩;have HX1:=Hd ((HX.out.below hb).below (aB w2 (.cells #[.string ⟨([49]:List UInt8).toArray⟩,.string ⟨#[]⟩] 25)));have HB1:=Hd (aA (aA HB.out hb) (aB w2 (.cells #[.string ⟨([49]:List UInt8).toArray⟩,.string ⟨#[]⟩] 25)));have hne:w.heap.size≠w2.heap.size:=by have:=(HX.out.below hb).1;omega
 have k0:=HX1.out.cell 0;have k1:=HX1.out.cell 1;have f0:=aR HX1.out.2 0;have f1:=aR HX1.out.2 1;clear hb HX;go_wp2;refine bodyPost_ret (v:=.agg #[.string ⟨([49]:List UInt8).toArray⟩,.string ⟨#[]⟩]) (by simp[results,results102,go_sem,k0,k1]) rfl ⟨rfl,?_⟩;exact(HB1.out.setCell (p:=⟨w.heap.size,0,none⟩) (Nl _) _).setCell (p:=⟨w.heap.size,1,none⟩) (Nl _) _
theorem Jb(k:Int)(w:World):Calls prog 99 #[.int .i64 k,.int .i64 5] w fun e w'=>e=.returned (.string ⟨(if decide (¬ (k=3∨k=4))=true then([49]:List UInt8) else[]).toArray⟩)/\w'=w:=by
 by_cases h1:k=3
 ·subst h1;go_enter func99,ntmps99;go_wp2;go_ret;exact⟨rfl,rfl⟩
 ·by_cases h2:k=4
  ·subst h2;go_enter func99,ntmps99;go_wp2;go_ret;exact⟨rfl,rfl⟩
  ·rw[if_pos (by simp[h1,h2])];have e1:(k==3)=false:=by simpa using h1
   have e2:(k==4)=false:=by simpa using h2
   go_enter func99,ntmps99;go_wp2;go_ret;exact⟨rfl,rfl⟩
end
section
set_option linter.unusedSimpArgs false
open Go Go.RowKit Num
attribute [local go_sem] eW eN aV nW
theorem Mu(l:List UInt8)(w:World)(hl:l.length<=9000000000000000000):
  Calls prog 160 #[.string ⟨l.toArray⟩] w fun e w'=>e=.returned (.bool (sP l))/\w=w':=by
 have ha:=Hd (Yp l);have hn:=Hd (Qv l);generalize sP l=r at *;go_enter func160,ntmps160;go_wp2;go_loop [3,4] (fun t i=>t=.int .i64 (-1)/\∃k:Nat,k<=l.length/\i=.int .i64 (k:Int)/\Hid (∀j,j<k->l.getD j 0≠47)) (fun _ i=>l.length-(intOf i).toNat)
 case atStart=>exact⟨rfl,0,Nat.zero_le _,rfl,fun j hj=>absurd hj (Nat.not_lt_zero j)⟩
 case round =>
  obtain⟨rfl,k,hk,rfl,hp⟩:=hrel
  by_cases hlt:k<l.length
  ·have hsz:k<(⟨l.toArray⟩:ByteArray).size:=by rw[aV];exact hlt
   have hgk:=Hd (gF l k hsz)
   by_cases n1:(((⟨l.toArray⟩:ByteArray)[k]'hsz).toNat:Int)=47
   ·have e1:Hid (l.getD k 0=47):=by
     show _=_;rw[<-hgk.out];apply UInt8.toNat.inj;have:((⟨l.toArray⟩:ByteArray)[k]'hsz).toNat=47:=by omega
     rw[this];rfl
    have HA:=Hd (ha.out k hlt e1.out hp.out);obtain⟨m,hm⟩:∃m,m=l.drop (k+1):=⟨_,rfl⟩
    have hsl:(l.drop (k+1)).take (l.length-(k+1))=m:=by rw[hm];exact List.take_of_length_le (by simp)
    have hml:m.length<=9000000000000000000:=by rw[hm];simp;omega
    rw[<-hm] at HA;have H1:=Hd (fun W=>mL (l.take k) W (by simp;omega));have hd:=Hd (show oL m=(decide (1<=m.length)&&decide (m.length<=4)&&m.all bF&&decide (m.head?≠some 48)) from rfl);clear hgk e1 ha hn hp hm;generalize dC (l.take k)=r1 at *;generalize oL m=r2 at *;cases r1
    ·go_wp2_with (go_at_call 37;refine(H1.out _).mono ?_;rintro e w1 ⟨rfl,rfl⟩);go_ret;exact⟨dG (by rw[HA.out];simp),rfl⟩
    ·go_wp2_with (go_at_call 37;refine(H1.out _).mono ?_;rintro e w1 ⟨rfl,rfl⟩);clear H1 hsl;go_loop [6] (fun i=>∃k:Nat,k<=m.length/\i=.int .i64 (k:Int)/\Hid (∀j,j<k->bF (m.getD j 0)=true)) (fun i=>m.length-(intOf i).toNat)
     case atStart=>exact⟨0,Nat.zero_le _,rfl,fun j hj=>absurd hj (Nat.not_lt_zero j)⟩
     case round =>
      obtain⟨j,hj,rfl,hp⟩:=hrel
      by_cases hltj:j<m.length
      ·have hszj:j<(⟨m.toArray⟩:ByteArray).size:=by rw[aV];exact hltj
       have hgk:=Hd (congrArg UInt8.toNat (gF m j hszj));have hdef:=Hd (dO (m.getD j 0));rw[<-hgk.out] at hdef
       by_cases n1:(((⟨m.toArray⟩:ByteArray)[j]'hszj).toNat:Int)<48
       ·have e1:bF (m.getD j 0)=false:=by cases hb:bF (m.getD j 0) with
         |false=>rfl
         |true=>have:=hdef.out.1 hb;omega
        have hs2:=Hd (fP hltj e1);clear hdef hgk e1;go_wp2;go_ret;exact⟨dG (by rw[HA.out,hd.out,hs2.out];simp),rfl⟩
       ·by_cases n2:(57:Int)<((⟨m.toArray⟩:ByteArray)[j]'hszj).toNat
        ·have e1:bF (m.getD j 0)=false:=by cases hb:bF (m.getD j 0) with
          |false=>rfl
          |true=>have:=hdef.out.1 hb;omega
         have hs2:=Hd (fP hltj e1);clear hdef hgk e1;go_wp2;go_ret;exact⟨dG (by rw[HA.out,hd.out,hs2.out];simp),rfl⟩
        ·have hs2:=Hd (tD (p:=fun j=>bF (m.getD j 0)=true) hp.out (hdef.out.2 (by omega)));clear hdef hgk;go_wp2;go_round
         case rel=>exact⟨j+1,by omega,by go_num,hs2⟩
         case measure=>simp[intOf];omega
      ·obtain rfl:j=m.length:=by omega
       have hs2:=Hd (oU hp.out)
       by_cases g1:1<=m.length
       ·have hsz0:0<(⟨m.toArray⟩:ByteArray).size:=by rw[aV];omega
        have hg0:=Hd (gF m 0 hsz0);have hh:=Hd (show m.head?=some (m.getD 0 0) by cases m with
         |nil=>simp at g1
         |cons a r=>simp)
        have g1':(1:Int)<=m.length:=by omega
        by_cases g2:(m.length:Int)<=4
        ·by_cases g3:((⟨m.toArray⟩:ByteArray)[0]'hsz0).toNat=48
         ·have g3':(((⟨m.toArray⟩:ByteArray)[0]'hsz0).toNat:Int)=48:=by omega
          have hx:Hid (r=false):=by
           show _=_;have e:m.getD 0 0=48:=by rw[<-hg0.out];apply UInt8.toNat.inj;simpa using g3
           rw[HA.out,hd.out,hh.out,e];simp
          clear hh hg0 hs2;go_wp2;go_ret;exact⟨dG (by rw[hx.out]),rfl⟩
         ·have g3':¬ (((⟨m.toArray⟩:ByteArray)[0]'hsz0).toNat:Int)=48:=by omega
          have hx:Hid (r=true):=by
           show _=_;have e:m.getD 0 0≠48:=fun h=>by rw[<-hg0.out] at h;rw[h] at g3;exact g3 rfl
           rw[HA.out,hd.out,hh.out,hs2.out];simp at e;simp[e];omega
          clear hh hg0 hs2;go_wp2;go_ret;exact⟨dG (by rw[hx.out];exact bne_iff_ne.2 g3'),rfl⟩
        ·have hx:Hid (r=false):=by show _=_;rw[HA.out,hd.out];simp;omega
         clear hh hg0 hs2;go_wp2;go_ret;exact⟨dG (by rw[hx.out]),rfl⟩
       ·have g1':¬ (1:Int)<=m.length:=by omega
        have hx:Hid (r=false):=by show _=_;rw[HA.out,hd.out];simp;omega
        go_wp2;go_ret;exact⟨dG (by rw[hx.out]),rfl⟩
   ·have e1:l.getD k 0≠47:=fun h=>by
     rw[<-hgk.out] at h;rw[h] at n1;exact n1 rfl
    have hs2:=Hd (tD (p:=fun j=>l.getD j 0≠47) hp.out e1);clear hgk e1;go_wp2;go_round
    case rel=>exact⟨rfl,k+1,by omega,by go_num,hs2⟩
    case measure=>simp[intOf];omega
  ·obtain rfl:k=l.length:=by omega
   go_wp2;go_ret;exact⟨dG (by rw[hn.out hp.out]),rfl⟩
end
section
open Go Go.RowKit Num
theorem Ts(q:List UInt8)(p:bJ)(r:List bJ)(seen:List (List UInt8))(s:Int):Kl q (p::r) seen s=(if sP p.lot=false then 23 else if seen.contains p.lot=true then 5 else if lim true false p.q []≠0 then lim true false p.q [] else Kl q r (seen ++ [p.lot]) (s+val p.q)):=rfl
theorem Tr{q:List UInt8}{ps:List bJ}{k:Nat}{p:bJ}(h:ps[k]?=some p)(s:Int):Kl q (ps.drop k) ((ps.take k).map bJ.lot) s =
  (if sP p.lot=false then 23 else if((ps.take k).map bJ.lot).contains p.lot=true then 5 else if lim true false p.q []≠0 then lim true false p.q [] else Kl q (ps.drop (k+1)) ((ps.take (k+1)).map bJ.lot) (s+val p.q)):=by
 have hk:=(Li.1 h).1;have hp:=(Li.1 h).2;have e:(ps.take (k+1)).map bJ.lot=(ps.take k).map bJ.lot ++ [p.lot]:=by rw[List.take_add_one,h,List.map_append];rfl
 rw[List.drop_eq_getElem_cons hk,hp,e,Ts]
theorem Wt{ps:List bJ}{k:Nat}{p:bJ}(h:∀(i:Nat) x,i<k->ps[i]?=some x->(x.lot==p.lot)=false):((ps.take k).map bJ.lot).contains p.lot=false:=by
 rw[Bool.eq_false_iff];intro hc;rw[List.contains_iff_mem,List.mem_map] at hc;obtain⟨x,hx,e⟩:=hc;obtain⟨i,hi,e2⟩:=List.mem_iff_getElem.1 hx;rw[List.length_take] at hi;have hxi:ps[i]?=some x:=by rw[List.getElem_take] at e2;rw[Lg (by omega),e2]
 have:=h i x (by omega) hxi;rw[e] at this;simp at this
theorem Ss{ps:List bJ}{k i:Nat}{p x:bJ}(hi:i<k)(hx:ps[i]?=some x)(he:(x.lot==p.lot)=true):((ps.take k).map bJ.lot).contains p.lot=true:=by
 rw[List.contains_iff_mem,List.mem_map];exact⟨x,List.mem_of_getElem? (by rw[List.getElem?_take_of_lt hi];exact hx),by simpa using he⟩
theorem Mq(f:aE)(pa oa:Option Addr)(pc oc:Nat)(w:World)(hb:f.Behind w pa oa)(hq13:f.q.length<=13)(hp13:∀p,p∈f.picks->p.lot.length<=1000/\p.q.length<=13)(hpm:f.picks.length<=1000):
  Calls prog 103 #[.agg (f.cells pa pc oa oc)] w fun e w'=>e=.returned (.int .i64 (jF f))/\Below w.heap.size w w':=by
 have HSR:=Hd hb.1;obtain⟨res,hres⟩:∃res,res=jF f:=⟨_,rfl⟩
 rw[<-hres];unfold jF at hres;obtain⟨key,stamp,cancelled,day,kind,ins,other,cur,target,fq,amt,fee,price,ratio,share,picks,os,choice⟩:=f;clear hb;have HX:=Hd (aP.new0 w ((aE.mk key stamp cancelled day kind ins other cur target fq amt fee price ratio share picks os choice).cells pa pc oa oc) 29);have HB:=Hd (aB w (.cells ((aE.mk key stamp cancelled day kind ins other cur target fq amt fee price ratio share picks os choice).cells pa pc oa oc) 29));unfold aE.cells at HX HB ⊢;dsimp only at *;have k18:=HX.out.cell 18;have k9:=HX.out.cell 9
 by_cases hbig:64<picks.length
 ·rw[if_pos hbig] at hres;subst hres;clear HSR hp13 HX;go_enter func103,ntmps103;go_wp2;go_ret;exact⟨rfl,HB.out⟩
 ·rw[if_neg hbig] at hres;have HRES:=Hd hres;have HP13:=Hd hp13;clear hres hp13;obtain⟨W0,hW0⟩:∃W0,W0=w.alloc (.cells #[.string ⟨key.toArray⟩,.int .i64 stamp,.bool cancelled,.int .i64 day,.int .i64 kind,.string ⟨ins.toArray⟩,.string ⟨other.toArray⟩,.string ⟨cur.toArray⟩,.string ⟨target.toArray⟩,.string ⟨fq.toArray⟩,.string ⟨amt.toArray⟩,.string ⟨fee.toArray⟩,.string ⟨price.n.toArray⟩,.string ⟨price.d.toArray⟩,.string ⟨ratio.n.toArray⟩,.string ⟨ratio.d.toArray⟩,.string ⟨share.n.toArray⟩,.string ⟨share.d.toArray⟩,.slice pa picks.length pc,.slice oa os.length oc,.int .i64 choice] 29):=⟨_,rfl⟩
  rw[<-hW0] at HX HB k18 k9;have HSR0:Hid (gJ W0 pa 2 (picks.map bJ.cells)):=HSR.out.below (by rw[hW0];exact aB _ _);have hqc:=Hd (fun (tx:List UInt8) W (h:tx.length<=1000)=>iD tx fq W (by omega) (by omega));clear HSR hq13;go_enter func103,ntmps103;go_wp2_with fail;rw[<-hW0];clear hW0;go_loopw [3,4] (fun sv iv W=>∃(k:Nat) (s:Int),k<=picks.length/\iv=.int .i64 (k:Int)/\sv=.string ⟨(aJ s).toArray⟩/\Hid (res=Kl fq (picks.drop k) ((picks.take k).map bJ.lot) s)/\Hid (s.natAbs<=k*10000000000000)/\Hid (Below W0.heap.size W0 W)) (fun _ iv _=>picks.length-(intOf iv).toNat)
  case atStart=>exact⟨0,0,Nat.zero_le _,rfl,by rw[nA],HRES,Nl _,Br _ _⟩
  case round =>
   obtain⟨k,s,hk,rfl,rfl,HP,HS,HW⟩:=hrel;have c18:=(HX.out.below HW.out).cell 18;have c9:=(HX.out.below HW.out).cell 9
   by_cases hlt:k<picks.length
   ·obtain⟨p,hp⟩:∃p,picks[k]?=some p:=⟨_,Lg hlt⟩
    have HST:=Hd (HP.out.trans (Tr hp s));obtain⟨hpl,hpq⟩:=HP13.out p (List.mem_of_getElem? hp);obtain⟨b,off,rfl,hbl,hcc⟩:=HSR0.out.addr (k:=k) (cs:=p.cells) (by rw[List.getElem?_map,hp];rfl);have d0:wr.cell? ⟨b,off+k*2+0,none⟩=some (.string ⟨p.lot.toArray⟩):=(HW.out.cell (p:=⟨b,off+k*2+0,none⟩) hbl).trans (hcc 0 _ rfl);have d1:wr.cell? ⟨b,off+k*2+1,none⟩=some (.string ⟨p.q.toArray⟩):=(HW.out.cell (p:=⟨b,off+k*2+1,none⟩) hbl).trans (hcc 1 _ rfl);rw[Nat.add_zero] at d0;have HID:=Hd (fun W=>Mu p.lot W (by omega));clear hcc HP;cases hid:sP p.lot with
    |false =>
     have hr:Hid (res=23):=by have h:=HST.out;rw[if_pos hid] at h;exact h
     rw[hid] at HID;clear HST hid d1;go_wp2_with fail;refine(HID.out _).mono ?_;rintro e w2 ⟨rfl,rfl⟩;go_wp2;go_ret;exact⟨by rw[hr.out];rfl,aA HB.out HW.out⟩
    |true =>
     have HST2:Hid (res=if((picks.take k).map bJ.lot).contains p.lot=true then 5 else if lim true false p.q []≠0 then lim true false p.q [] else Kl fq (picks.drop (k+1)) ((picks.take (k+1)).map bJ.lot) (s+val p.q)):=by have h:=HST.out;rw[if_neg (by rw[hid];decide)] at h;exact h
     rw[hid] at HID;clear HST hid;go_wp2_with fail;refine(HID.out _).mono ?_;rintro e w2 ⟨rfl,rfl⟩;obtain⟨wo,hwo⟩:∃wo,wo=wr:=⟨_,rfl⟩
     subst hwo;clear HID;go_wp2_with fail;go_loopw [5] (fun jv W=>∃j:Nat,j<=k/\jv=.int .i64 (j:Int)/\Hid (∀(i:Nat) x,i<j->picks[i]?=some x->(x.lot==p.lot)=false)/\Hid (Below wo.heap.size wo W)) (fun jv _=>k-(intOf jv).toNat)
     case atStart=>exact⟨0,Nat.zero_le _,rfl,fun i x h=>absurd h (Nat.not_lt_zero i),Br _ _⟩
     case round =>
      obtain⟨j,hj,rfl,HN,HW2⟩:=hrel;have e18:=(HX.out.below (aA HW.out HW2.out)).cell 18;have f0:=(HW2.out.cell (p:=⟨b,off+k*2,none⟩) (Nat.lt_of_lt_of_le hbl HW.out.size)).trans d0;have f1:=(HW2.out.cell (p:=⟨b,off+k*2+1,none⟩) (Nat.lt_of_lt_of_le hbl HW.out.size)).trans d1
      by_cases hjk:j<k
      ·obtain⟨x,hx⟩:∃x,picks[j]?=some x:=⟨_,Lg (by omega)⟩
       have g0:wr.cell? ⟨b,off+j*2,none⟩=some (.string ⟨x.lot.toArray⟩):=by
        obtain⟨b2,off2,e2,_,hcc⟩:=HSR0.out.addr (k:=j) (cs:=x.cells) (by rw[List.getElem?_map,hx];rfl);injection e2 with e2
        injection e2 with e2 e3
        subst e2;subst e3;exact((aA HW.out HW2.out).cell (p:=⟨b,off+j*2+0,none⟩) hbl).trans (hcc 0 _ rfl)
       cases heq:(x.lot==p.lot) with
       |true =>
        have hr:Hid (res=5):=by have h:=HST2.out;rw[if_pos (Ss hjk hx heq)] at h;exact h
        clear HST2 c18 c9 d0 d1 f1 hx;go_wp2_with fail;go_quiet (fail);go_wp2;go_ret;exact⟨by rw[hr.out];rfl,aD (aA HB.out (aA HW.out HW2.out)) _⟩
       |false =>
        have HN2:Hid (∀(i:Nat) y,i<j+1->picks[i]?=some y->(y.lot==p.lot)=false):=fun i y hi hy=>by
         rcases Nat.lt_or_ge i j with g|g
         ·exact HN.out i y g hy
         ·obtain rfl:i=j:=by omega
          rw[hx] at hy;injection hy with hy
          rw[<-hy];exact heq
        clear HST2 c18 c9 d0 d1 f1 hx HN;go_wp2_with fail;go_quiet (fail);go_wp2;go_roundw
        case rel=>exact⟨j+1,by omega,by go_num,HN2,aD HW2.out _⟩
        case measure=>simp[intOf];omega
      ·obtain rfl:j=k:=by omega
       have HST3:Hid (res=if lim true false p.q []≠0 then lim true false p.q [] else Kl fq (picks.drop (j+1)) ((picks.take (j+1)).map bJ.lot) (s+val p.q)):=by have h:=HST2.out;rw[if_neg (by rw[Wt HN.out];decide)] at h;exact h
       have HWH:Hid (∀W,Calls prog 98 #[.string ⟨p.q.toArray⟩,.string ⟨([49]:List UInt8).toArray⟩] W fun e w'=>e=.returned (.int .i64 (lim true false p.q []))/\w'=W):=fun W=>pO p.q true W hpq
       have hv13:(val p.q).natAbs<10000000000000:=Nat.lt_of_lt_of_le (yB p.q) (Nat.pow_le_pow_right (n:=10) (by decide) hpq);have hsb:=HS.out;have HS2:Hid ((s+val p.q).natAbs<=(j+1)*10000000000000):=by show _<=_;omega
       have hcl:(aJ s).length<=1000:=Nat.le_trans (gC (K:=17) (by decide) (by omega)) (by decide);have HAD:Hid (∀W,Calls prog 161 #[.string ⟨(aJ s).toArray⟩,.string ⟨p.q.toArray⟩] W fun e w'=>e=.returned (.string ⟨(aJ (s+val p.q)).toArray⟩)/\W=w'):=fun W=>by
        have h:=Wf (aJ s) p.q W (by omega) (by omega) (by rw[bE];omega) (by omega);rw[bE] at h;exact h
       clear HST2 c18 c9 d0 d1 f0 HN hv13 hsb hcl;obtain⟨z,hz⟩:∃z,z=lim true false p.q []:=⟨_,rfl⟩
       rw[<-hz] at HST3 HWH;clear hz
       by_cases hz0:z=0
       ·have HR2:Hid (res=Kl fq (picks.drop (j+1)) ((picks.take (j+1)).map bJ.lot) (s+val p.q)):=by have h:=HST3.out;rw[if_neg (by simpa using hz0)] at h;exact h
        clear HST3;subst hz0;go_wp2_with fail;refine(HWH.out _).mono ?_;rintro e w3 ⟨rfl,rfl⟩;go_wp2_with fail;refine(HAD.out _).mono ?_;rintro e w3 ⟨rfl,rfl⟩;go_wp2;go_roundw
        case rel=>exact⟨j+1,s+val p.q,by omega,by go_num,rfl,HR2,HS2,aA HW.out HW2.out⟩
        case measure=>simp[intOf];omega
       ·have HR2:Hid (res=z):=by have h:=HST3.out;rw[if_pos hz0] at h;exact h
        have hzb:(z != 0)=true:=by simpa using hz0
        clear HST3 hz0;go_wp2_with fail;refine(HWH.out _).mono ?_;rintro e w3 ⟨rfl,rfl⟩;go_wp2;go_ret;exact⟨by rw[HR2.out];rfl,aA HB.out (aA HW.out HW2.out)⟩
   ·obtain rfl:k=picks.length:=by omega
    have hsb:=HS.out;have hcl:(aJ s).length<=1000:=Nat.le_trans (gC (K:=17) (by decide) (by omega)) (by decide);have HC:=Hd (fun W=>hqc.out (aJ s) W hcl);rw[bE] at HC;have HR2:Hid (res=if val fq<s then 15 else 0):=by
     have h:=HP.out;rw[List.drop_of_length_le (Nl _)] at h;exact h
    have HCV:Hid (0<bG s (val fq)↔val fq<s):=by
     show _↔_;unfold bG;split
     ·constructor <;> intro <;> omega
     ·split <;> constructor <;> intro <;> omega
    clear hsb hcl hqc HP HS;generalize bG s (val fq)=cv at *
    by_cases hgt:0<cv
    ·have HR3:Hid (res=15):=by have h:=HR2.out;rw[if_pos (HCV.out.1 hgt)] at h;exact h
     clear HR2 HCV;go_wp2_with fail;refine(HC.out _).mono ?_;rintro e w3 ⟨rfl,rfl⟩;go_wp2;go_ret;exact⟨by rw[HR3.out];rfl,aA HB.out HW.out⟩
    ·have HR3:Hid (res=0):=by have h:=HR2.out;rw[if_neg (fun h=>hgt (HCV.out.2 h))] at h;exact h
     clear HR2 HCV;go_wp2_with fail;refine(HC.out _).mono ?_;rintro e w3 ⟨rfl,rfl⟩;go_wp2;go_ret;exact⟨by rw[HR3.out];rfl,aA HB.out HW.out⟩
end
end Go.Proofs.YthjekgfoidmagaaGreatDoor
