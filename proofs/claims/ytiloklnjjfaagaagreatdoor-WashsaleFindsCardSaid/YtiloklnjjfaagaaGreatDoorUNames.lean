/- Format Names Ids Ids2 -/
import Derived.Test.YtiloklnjjfaagaaGreatDoorUShelf
import Derived.Test.YtiloklnjjfaagaaGreatDoorUNum
import Derived.Lib.AppendIntMem
set_option maxHeartbeats 16000000
set_option maxRecDepth 100000
namespace Go.Proofs.YtiloklnjjfaagaaGreatDoor
open Tryz
section
open Go.RowKit Go.Sort
structure iE(w:World):Prop where
 pow : Lib.TabIs prog w "internal/strconv.uint64pow10" .u64 Lib.pow10Tab
 syn:∃tp p,w.cell? ⟨0,0,none⟩=some (.iface tp p)
 rng:∃tp p,w.cell? ⟨1,0,none⟩=some (.iface tp p)
 len:∃m,w.cell? ⟨3,0,none⟩=some (.int .i64 m)
theorem Fz{P:Program}{w w':World}{name:String}{k:IntKind}{zs:List Int}(h:Lib.TabIs P w name k zs)(hb:Below w.heap.size w w'):Lib.TabIs P w' name k zs:=by
 unfold Lib.TabIs World.var? at *;cases hg:P.globalNamed name with
 |none=>simp[hg] at h
 |some g =>
  simp only[hg,Option.bind_some] at h ⊢;rw[hb.block g]
  ·exact h
  ·rcases Nat.lt_or_ge g w.heap.size with h'|h'
   ·exact h'
   ·rw[Array.getElem?_eq_none h'] at h;simp at h
theorem sL{w:World}{a:Addr}{v:Value}(h:w.cell? a=some v):a.block<w.heap.size:=World.block_lt_of_cell? w a h
theorem iE.below{w w':World}(h:iE w)(hb:Below w.heap.size w w'):iE w':=by
 obtain⟨h1,⟨a,b,h2⟩,⟨c,d,h3⟩,⟨m,h4⟩⟩:=h;exact⟨Fz h1 hb,⟨a,b,(hb.cell (sL h2)).trans h2⟩,⟨c,d,(hb.cell (sL h3)).trans h3⟩,⟨m,(hb.cell (sL h4)).trans h4⟩⟩
theorem iE.alloc{w:World}(h:iE w)(o:Obj):iE (w.alloc o):=h.below ((Br _ _).alloc (Nl _) o)
theorem iE.drewN{w:World}(h:iE w)(n:Nat):iE (w.drewN n):=h.below (aD (Br _ _) n)
theorem Ay(w:World)(k:Nat)(os:Array Obj):Below w.heap.size w (grow (w.drewN k) os) :=
 ⟨rfl,rfl,rfl,by simp[grow],fun i hi=>Lib.heap_grow_old w k os i hi⟩
theorem Uj(n:Int)(h0:-9223372036854775808<=n)(h1:n<=9223372036854775807)(w:World)(hE:iE w):
  Calls prog 90 #[.int .i64 n] w fun e w'=>e=.returned (.string ⟨(Lib.itoa n).toArray⟩)/\Below w.heap.size w w' :=
 (strconv_Itoa n h0 h1 w hE.pow).mono fun e w' ⟨he,k,os,hw⟩=>⟨he,by rw[hw];exact Ay w k os⟩
theorem vE(u:Nat)(hu:u<100)(w:World):
  Calls prog 161 #[.int .u64 (u:Int),.int .i64 10] w fun e w'=>e=.returned (.string ⟨(Lib.decDigits u).toArray⟩)/\w=w':=by
 go_enter func161,ntmps161;go_wp2_with (go_at_call 201;refine(internal_strconv_small u hu _).mono ?_;rintro e w' ⟨rfl,rfl⟩);go_ret;exact⟨rfl,rfl⟩
theorem zX (u : Nat) (hu0 : 100 ≤ u) (hu64 : u < 18446744073709551616) (w : World) (htab : Lib.TabIs prog w "internal/strconv.uint64pow10" .u64 Lib.pow10Tab) :
  Calls prog 161 #[.int .u64 (u:Int),.int .i64 10] w fun e w'=>e=.returned (.string ⟨(Lib.decDigits u).toArray⟩)/\Below w.heap.size w w':=by
 have hu1:1<=u:=by omega
 have hnd20:Lib.nDigits u<=20:=by have:=Lib.numDigits_eq u hu1 hu64;split at this <;> omega
 have hal:prog.arrayLen 215=24:=by simp[Program.arrayLen,underlying215]
 have hsl1:∀W,(Instr.sliceAt 215 (.pointer (some ⟨w.heap.size,0,none⟩)) none (some (.int .i64 (Lib.nDigits u:Int))) none).run prog W=.ok (.slice (some ⟨w.heap.size,0,none⟩) (Lib.nDigits u) 24) W:=fun W=>by
  rw[run_sliceAt_array_h W 215 ⟨w.heap.size,0,none⟩ (by simp[Program.arrayLen,Program.elem,underlying215]) .i64 (Lib.nDigits u:Int) (by omega) (by rw[hal];omega)];go_simp
 have hH0:=Lib.holds_zero0 w 215 (Lib.nDigits u) (by omega);have hfmt:=internal_strconv_formatBase10 w.heap.size 0 24 u (Array.replicate (Lib.nDigits u) 0) (w.alloc (.cells Lib.zeros24 215)) hH0 (by rw[Array.size_replicate];exact Lib.lt_pow_nDigits u) hu64 (by rw[Array.size_replicate];omega);rw[Array.size_replicate] at hfmt;have HH0:=Hd hH0;have HF:=Hd hfmt;have HT:=Hd htab;clear hH0 hal hfmt htab;go_enter func161,ntmps161;go_wp2_with (go_at_call 202;refine(internal_strconv_numDigits u hu1 hu64 _ (Lib.tabIs_alloc HT.out _)).mono ?_;rintro e w' ⟨rfl,rfl⟩);refine HF.out.mono ?_;rintro e w' ⟨rfl,k,v',dk,rfl,hF⟩;have hcv:(convert 152 9 (.slice (some ⟨w.heap.size,0,none⟩) (Lib.nDigits u) 24)).run prog ((putRow (fun (b:UInt8)=>Value.int .u8 (b.toNat:Int)) (w.alloc (.cells Lib.zeros24 215)) w.heap.size 0 dk).drewN k)=.ok (.string ⟨(Lib.decDigits u).toArray⟩) ((putRow (fun (b:UInt8)=>Value.int .u8 (b.toNat:Int)) (w.alloc (.cells Lib.zeros24 215)) w.heap.size 0 dk).drewN k):=by
  have h:=run_convert_bytes_back (P:=prog) ((putRow (fun (b:UInt8)=>Value.int .u8 (b.toNat:Int)) (w.alloc (.cells Lib.zeros24 215)) w.heap.size 0 dk).drewN k) 152 9 5 ⟨w.heap.size,0,none⟩ 24 (Lib.decDigits u) underlying152 underlying5 underlying9 (fun j hj=>by
   rw[Lib.row_is_numeral hF j hj,Lib.add_plain,World.cell?_drewN];exact cell?_putRow (fun (b:UInt8)=>Value.int .u8 (b.toNat:Int)) _ w.heap.size 0 _ dk HH0.out (by rw[hF.size,Array.size_replicate]) j (by rw[hF.size];rw[Lib.decDigits_length] at hj;exact hj))
  rw[Lib.decDigits_length] at h;exact h
 go_wp2;go_ret;obtain⟨os,eo⟩:=Lib.fin_at w (.cells Lib.zeros24 215) dk k 0;refine⟨rfl,?_⟩;have hb:=Ay w k os;rw[<-eo] at hb;exact hb
theorem qK(u:Nat)(hu64:u<18446744073709551616)(w:World)(hE:iE w):
  Calls prog 116 #[.int .u64 (u:Int),.int .i64 10] w fun e w'=>e=.returned (.string ⟨(Lib.decDigits u).toArray⟩)/\Below w.heap.size w w':=by
 have H:Hid (Calls prog 161 #[.int .u64 (u:Int),.int .i64 10] w fun e w'=>e=.returned (.string ⟨(Lib.decDigits u).toArray⟩)/\Below w.heap.size w w'):=by
  by_cases h:u<100
  ·exact(vE u h w).mono fun e w' ⟨he,hw⟩=>⟨he,by rw[<-hw];exact Br _ _⟩
  ·exact zX u (by omega) hu64 w hE.pow
 go_enter func116,ntmps116;go_wp2_with (go_at_call 161;refine H.out.mono ?_;rintro e w1 ⟨rfl,hb1⟩);go_ret;exact⟨rfl,hb1⟩
end
section
open Go.RowKit Num
attribute [local go_sem] eW eN aV
def iI(c:UInt8):Bool:=(decide (97<=c.toNat)&&decide (c.toNat<=122)) || (decide (48<=c.toNat)&&decide (c.toNat<=57)) || decide (c.toNat=95)
def dC(l:List UInt8):Bool:=decide (1<=l.length)&&decide (l.length<=16)&&l.all iI
theorem tS{l:List UInt8}(h:l.length=0∨16<l.length):dC l=false:=by
 unfold dC;rcases h with h|h
 ·rw[show decide (1<=l.length)=false by rw[h];rfl];rfl
 ·rw[show decide (l.length<=16)=false by simp;omega];simp
theorem Lh{l:List UInt8}(h1:1<=l.length)(h2:l.length<=16):dC l=l.all iI:=by
 unfold dC;simp[h1,h2]
theorem fP{p:UInt8->Bool}{l:List UInt8}{k:Nat}(hk:k<l.length)(h:p (l.getD k 0)=false):l.all p=false:=by
 rw[List.all_eq_false];refine⟨l.getD k 0,?_,by rw[h];simp⟩;rw[List.getD_eq_getElem?_getD,Lg hk];exact List.getElem_mem hk
theorem oU{p:UInt8->Bool}{l:List UInt8}(h:∀k,k<l.length->p (l.getD k 0)=true):l.all p=true:=by
 rw[List.all_eq_true];intro x hx;obtain⟨k,hk,rfl⟩:=List.getElem_of_mem hx;have:=h k hk
 rwa [List.getD_eq_getElem?_getD,Lg hk] at this
theorem aDu(c:UInt8):c.toNat<256:=c.toNat_lt
theorem Qh(l:List UInt8)(w:World)(h1:1<=l.length)(h2:l.length<=16):
  Calls prog 59 #[.string ⟨l.toArray⟩] w fun e w'=>e=.returned (.bool (l.all iI))/\Below w.heap.size w w':=by
 have HC:=Hd (fun k (hk:k<l.length)=>Lib.bytesWorld_cell w 5 ⟨l.toArray⟩ k (by rw[aV];exact hk));have HB:=Hd (Lib.bytesWorld_below w 5 ⟨l.toArray⟩);have hcv:=Lib.run_convert_string_bytes (P:=prog) w 9 152 5 ⟨l.toArray⟩ underlying9 underlying152 underlying5;rw[aV] at hcv;generalize Lib.bytesWorld w 5 ⟨l.toArray⟩=w1 at *;generalize grownCap w l.length 0 5=cp at *;have b0:((l.length:Int)==0)=false:=by simp;intro h;rw[h] at h1;simp at h1
 have b1:¬ (16:Int)<l.length:=by omega
 have hne:l ≠ []:=by intro h;rw[h] at h1;simp at h1
 have HNE:=Hd hne;clear hne;go_enter func59,ntmps59;go_wp2;go_loop [4,16] (fun _ i=>∃k:Nat,k<=l.length/\i=.int .i64 (k:Int)/\Hid (∀j,j<k->iI (l.getD j 0)=true)) (fun _ i=>l.length-(intOf i).toNat)
 case atStart=>exact⟨0,Nat.zero_le _,rfl,fun j hj=>absurd hj (Nat.not_lt_zero j)⟩
 case round =>
  obtain⟨k,hk,rfl,hp⟩:=hrel
  by_cases hlt:k<l.length
  ·have hck:=HC.out k hlt;have hb:=aDu (l.getD k 0);have hfal:=Hd (fun h=>fP (p:=iI) hlt h);have hdef:=Hd (show iI (l.getD k 0)=((decide (97<=(l.getD k 0).toNat)&&decide ((l.getD k 0).toNat<=122)) || (decide (48<=(l.getD k 0).toNat)&&decide ((l.getD k 0).toNat<=57)) || decide ((l.getD k 0).toNat=95)) from rfl);have hstep:=Hd (fun (h:iI (l.getD k 0)=true) j (hj:j<k+1)=>show iI (l.getD j 0)=true by
    rcases Nat.lt_or_ge j k with g|g
    ·exact hp.out j g
    ·obtain rfl:j=k:=by omega
     exact h)
   change w1.cell? _=some (.int .u8 ((l.getD k 0).toNat:Int)) at hck;generalize iI (l.getD k 0)=nb at *;generalize(l.getD k 0).toNat=c at *;have hcs:(97<=c/\c<=122)∨(48<=c/\c<=57)∨c=95∨c<48∨(57<c/\c<97/\c≠95)∨122<c:=by omega
   rcases hcs with⟨g1,g2⟩|⟨g1,g2⟩|g1|g1|⟨g1,g2,g3⟩|g1
   ·have n1:¬ (c:Int)<97:=by omega
    have n2:¬ (122:Int)<c:=by omega
    have e1:nb=true:=by rw[hdef.out];simp <;> omega
    have hs2:=Hd (hstep.out e1);clear hstep hfal hdef e1;go_wp2;go_round
    case rel=>exact⟨k+1,by omega,by go_num,hs2⟩
    case measure=>simp[intOf];omega
   ·have n1:(c:Int)<97:=by omega
    have n2:¬ (c:Int)<48:=by omega
    have n3:¬ (57:Int)<c:=by omega
    have e1:nb=true:=by rw[hdef.out];simp <;> omega
    have hs2:=Hd (hstep.out e1);clear hstep hfal hdef e1;go_wp2;go_round
    case rel=>exact⟨k+1,by omega,by go_num,hs2⟩
    case measure=>simp[intOf];omega
   ·subst g1;have e1:nb=true:=by rw[hdef.out];simp <;> omega
    have hs2:=Hd (hstep.out e1);clear hstep hfal hdef e1;go_wp2;go_round
    case rel=>exact⟨k+1,by omega,by go_num,hs2⟩
    case measure=>simp[intOf];omega
   ·have n1:(c:Int)<97:=by omega
    have n2:(c:Int)<48:=by omega
    have n4:((c:Int) != 95)=true:=by simp;omega
    have e1:nb=false:=by rw[hdef.out];simp <;> omega
    have hs2:=Hd (hfal.out e1);clear hstep hfal hdef e1;go_wp2;go_ret;exact⟨dG hs2.out.symm,HB.out⟩
   ·have n1:(c:Int)<97:=by omega
    have n2:¬ (c:Int)<48:=by omega
    have n3:(57:Int)<c:=by omega
    have n4:((c:Int) != 95)=true:=by simp;omega
    have e1:nb=false:=by rw[hdef.out];simp <;> omega
    have hs2:=Hd (hfal.out e1);clear hstep hfal hdef e1;go_wp2;go_ret;exact⟨dG hs2.out.symm,HB.out⟩
   ·have n1:¬ (c:Int)<97:=by omega
    have n2:(122:Int)<c:=by omega
    have n3:¬ (c:Int)<48:=by omega
    have n5:(57:Int)<c:=by omega
    have n4:((c:Int) != 95)=true:=by simp;omega
    have e1:nb=false:=by rw[hdef.out];simp <;> omega
    have hs2:=Hd (hfal.out e1);clear hstep hfal hdef e1;go_wp2;go_ret;exact⟨dG hs2.out.symm,HB.out⟩
  ·obtain rfl:k=l.length:=by omega
   have hs2:=Hd (oU hp.out);go_wp2;go_ret;exact⟨dG hs2.out.symm,HB.out⟩
theorem qW(l:List UInt8)(w:World)(hl:l.length<=9223372036854775807):
  Calls prog 59 #[.string ⟨l.toArray⟩] w fun e w'=>e=.returned (.bool (dC l))/\Below w.heap.size w w':=by
 by_cases h0:l.length=0
 ·have e:l=[]:=List.eq_nil_of_length_eq_zero h0;subst e;rw[tS (.inl rfl)];go_enter func59,ntmps59;go_wp2;go_ret;exact⟨rfl,Br _ _⟩
 by_cases h1:16<l.length
 ·rw[tS (.inr h1)];have b0:((l.length:Int)==0)=false:=by simp;intro h;rw[h] at h0;simp at h0
  have b1:(16:Int)<l.length:=by omega
  clear h0;go_enter func59,ntmps59;go_wp2;go_ret;exact⟨rfl,Br _ _⟩
 rw[Lh (by omega) (by omega)];exact Qh l w (by omega) (by omega)
theorem mL(l:List UInt8)(w:World)(hl:l.length<=9000000000000000000):
  Calls prog 47 #[.string ⟨l.toArray⟩] w fun e w'=>e=.returned (.bool (dC l))/\w=w':=by
 go_enter func47,ntmps47;go_wp2;go_loop [3,4] (fun i _=>∃k:Nat,k<=l.length/\i=.int .i64 (k:Int)/\Hid (∀j,j<k->iI (l.getD j 0)=true)) (fun i _=>l.length-(intOf i).toNat)
 case atStart=>exact⟨0,Nat.zero_le _,rfl,fun j hj=>absurd hj (Nat.not_lt_zero j)⟩
 case round =>
  obtain⟨k,hk,rfl,hp⟩:=hrel
  by_cases hlt:k<l.length
  ·have hsz:k<(⟨l.toArray⟩:ByteArray).size:=by rw[aV];exact hlt
   have hgk:=Hd (congrArg UInt8.toNat (gF l k hsz));have hfal:=Hd (fun h=>fP (p:=iI) hlt h);have hstep:=Hd (fun (h:iI (l.getD k 0)=true) j (hj:j<k+1)=>show iI (l.getD j 0)=true by
    rcases Nat.lt_or_ge j k with g|g
    ·exact hp.out j g
    ·obtain rfl:j=k:=by omega
     exact h)
   have hdef:=Hd (show iI (l.getD k 0)=((decide (97<=(l.getD k 0).toNat)&&decide ((l.getD k 0).toNat<=122)) || (decide (48<=(l.getD k 0).toNat)&&decide ((l.getD k 0).toNat<=57)) || decide ((l.getD k 0).toNat=95)) from rfl);have hcs:(97<=((⟨l.toArray⟩:ByteArray)[k]'hsz).toNat/\((⟨l.toArray⟩:ByteArray)[k]'hsz).toNat<=122)∨(48<=((⟨l.toArray⟩:ByteArray)[k]'hsz).toNat/\((⟨l.toArray⟩:ByteArray)[k]'hsz).toNat<=57)∨((⟨l.toArray⟩:ByteArray)[k]'hsz).toNat=95∨((⟨l.toArray⟩:ByteArray)[k]'hsz).toNat<48∨(57<((⟨l.toArray⟩:ByteArray)[k]'hsz).toNat/\((⟨l.toArray⟩:ByteArray)[k]'hsz).toNat<97/\((⟨l.toArray⟩:ByteArray)[k]'hsz).toNat≠95)∨122<((⟨l.toArray⟩:ByteArray)[k]'hsz).toNat:=by omega
   rcases hcs with⟨g1,g2⟩|⟨g1,g2⟩|g1|g1|⟨g1,g2,g3⟩|g1
   ·have n1:¬ (((⟨l.toArray⟩:ByteArray)[k]'hsz).toNat:Int)<97:=by omega
    have n2:¬ (122:Int)<((⟨l.toArray⟩:ByteArray)[k]'hsz).toNat:=by omega
    have e1:iI (l.getD k 0)=true:=by rw[hdef.out,<-hgk.out];simp <;> omega
    have hs2:=Hd (hstep.out e1);clear hstep hfal hdef e1 hgk;go_wp2;go_round
    case rel=>exact⟨k+1,by omega,by go_num,hs2⟩
    case measure=>simp[intOf];omega
   ·have n1:(((⟨l.toArray⟩:ByteArray)[k]'hsz).toNat:Int)<97:=by omega
    have n2:¬ (((⟨l.toArray⟩:ByteArray)[k]'hsz).toNat:Int)<48:=by omega
    have n3:¬ (57:Int)<((⟨l.toArray⟩:ByteArray)[k]'hsz).toNat:=by omega
    have e1:iI (l.getD k 0)=true:=by rw[hdef.out,<-hgk.out];simp <;> omega
    have hs2:=Hd (hstep.out e1);clear hstep hfal hdef e1 hgk;go_wp2;go_round
    case rel=>exact⟨k+1,by omega,by go_num,hs2⟩
    case measure=>simp[intOf];omega
   ·have n1:(((⟨l.toArray⟩:ByteArray)[k]'hsz).toNat:Int)<97:=by omega
    have n2:¬ (((⟨l.toArray⟩:ByteArray)[k]'hsz).toNat:Int)<48:=by omega
    have n3:(57:Int)<((⟨l.toArray⟩:ByteArray)[k]'hsz).toNat:=by omega
    have n4:((((⟨l.toArray⟩:ByteArray)[k]'hsz).toNat:Int) != 95)=false:=by simp;omega
    have e1:iI (l.getD k 0)=true:=by rw[hdef.out,<-hgk.out];simp <;> omega
    have hs2:=Hd (hstep.out e1);clear hstep hfal hdef e1 hgk g1;go_wp2;go_round
    case rel=>exact⟨k+1,by omega,by go_num,hs2⟩
    case measure=>simp[intOf];omega
   ·have n1:(((⟨l.toArray⟩:ByteArray)[k]'hsz).toNat:Int)<97:=by omega
    have n2:(((⟨l.toArray⟩:ByteArray)[k]'hsz).toNat:Int)<48:=by omega
    have n4:((((⟨l.toArray⟩:ByteArray)[k]'hsz).toNat:Int) != 95)=true:=by simp;omega
    have e1:iI (l.getD k 0)=false:=by rw[hdef.out,<-hgk.out];simp <;> omega
    have hs2:=Hd (hfal.out e1);clear hstep hfal hdef e1 hgk;go_wp2;go_ret;exact⟨dG (by unfold dC;rw[hs2.out];simp),rfl⟩
   ·have n1:(((⟨l.toArray⟩:ByteArray)[k]'hsz).toNat:Int)<97:=by omega
    have n2:¬ (((⟨l.toArray⟩:ByteArray)[k]'hsz).toNat:Int)<48:=by omega
    have n3:(57:Int)<((⟨l.toArray⟩:ByteArray)[k]'hsz).toNat:=by omega
    have n4:((((⟨l.toArray⟩:ByteArray)[k]'hsz).toNat:Int) != 95)=true:=by simp;omega
    have e1:iI (l.getD k 0)=false:=by rw[hdef.out,<-hgk.out];simp <;> omega
    have hs2:=Hd (hfal.out e1);clear hstep hfal hdef e1 hgk g3;go_wp2;go_ret;exact⟨dG (by unfold dC;rw[hs2.out];simp),rfl⟩
   ·have n1:¬ (((⟨l.toArray⟩:ByteArray)[k]'hsz).toNat:Int)<97:=by omega
    have n2:(122:Int)<((⟨l.toArray⟩:ByteArray)[k]'hsz).toNat:=by omega
    have n3:¬ (((⟨l.toArray⟩:ByteArray)[k]'hsz).toNat:Int)<48:=by omega
    have n5:(57:Int)<((⟨l.toArray⟩:ByteArray)[k]'hsz).toNat:=by omega
    have n4:((((⟨l.toArray⟩:ByteArray)[k]'hsz).toNat:Int) != 95)=true:=by simp;omega
    have e1:iI (l.getD k 0)=false:=by rw[hdef.out,<-hgk.out];simp <;> omega
    have hs2:=Hd (hfal.out e1);clear hstep hfal hdef e1 hgk;go_wp2;go_ret;exact⟨dG (by unfold dC;rw[hs2.out];simp),rfl⟩
  ·obtain rfl:k=l.length:=by omega
   have hs2:=Hd (oU hp.out);have hdd:=Hd (show dC l=(decide (1<=l.length)&&decide (l.length<=16)&&l.all iI) from rfl)
   by_cases h1:1<=l.length
   ·by_cases h2:l.length<=16
    ·have h3:(1:Int)<=l.length:=by omega
     go_wp2;go_ret;exact⟨dG (by rw[hdd.out,hs2.out];simp[h1,h2] <;> omega),rfl⟩
    ·have h3:(1:Int)<=l.length:=by omega
     have h4:¬ (l.length:Int)<=16:=by omega
     go_wp2;go_ret;exact⟨dG (by rw[hdd.out,hs2.out];simp[h1,h2] <;> omega),rfl⟩
   ·have h3:¬ (1:Int)<=l.length:=by omega
    go_wp2;go_ret;exact⟨dG (by rw[hdd.out,hs2.out];simp[h1] <;> omega),rfl⟩
end
section
open Go.RowKit Num
attribute [local go_sem] eW eN aV
def oL(l:List UInt8):Bool:=decide (1<=l.length)&&decide (l.length<=4)&&l.all bF&&decide (l.head?≠some 48)
def sP(l:List UInt8):Bool:=oL (Lib.cut l [47]).2.1&&dC (Lib.cut l [47]).1
theorem Xg(l:List UInt8)(acc:Nat)(hd:l.all bF=true)(hlt:acc*10^l.length+bK l<1000000000000000000):Lib.parseUint10 acc l=.ok (acc*10^l.length+bK l):=by
 induction l generalizing acc with
 |nil=>simp[Lib.parseUint10,bK]
 |cons c r ih =>
  simp only[List.all_cons,Bool.and_eq_true] at hd;have hc:=(dO c).1 hd.1;rw[gN,List.length_cons,Nat.pow_succ] at hlt ⊢;have e:acc*(10^r.length*10)+((c.toNat-48)*10^r.length+bK r)=(acc*10+(c.toNat-48))*10^r.length+bK r:=by
   rw[Nat.add_mul,Nat.mul_assoc,Nat.mul_comm 10 (10^r.length),Nat.add_assoc]
  rw[e] at hlt ⊢;have hp:1<=10^r.length:=Nat.one_le_pow _ _ (by decide);have hb:acc*10+(c.toNat-48)<=(acc*10+(c.toNat-48))*10^r.length:=Nat.le_mul_of_pos_right _ hp;rw[Lib.parseUint10,if_pos hc,if_neg (by omega),if_neg (by omega)];exact ih _ hd.2 hlt
theorem Iw{l:List UInt8}(hne:l ≠ [])(hl:l.length<=4)(hd:l.all bF=true):Lib.atoiAll l=.ok (bK l:Int):=by
 cases l with
 |nil=>exact absurd rfl hne
 |cons c r =>
  have hc:=(dO c).1 (by simp at hd ⊢;exact hd.1);have hlt:=mR (c::r) hd;have h4:10^(c::r).length<=10^4:=Nat.pow_le_pow_right (by decide) hl;have e4:(10:Nat)^4=10000:=by decide
  have hp:=Xg (c::r) 0 hd (by omega);rw[Nat.zero_mul,Nat.zero_add] at hp;simp only[Lib.atoiAll];rw[if_neg (by omega)];unfold Lib.parseMag;rw[if_neg (by simp),hp];simp only;rw[if_neg (by omega),if_neg (by omega),if_neg (by omega)]
theorem Cs(l:List UInt8):oL l=true↔∃n:Int,Lib.atoiAll l=.ok n/\1<=n/\n<=9999/\Lib.itoa n=l:=by
 constructor
 ·intro h;unfold oL at h;simp only[Bool.and_eq_true,decide_eq_true_eq] at h;obtain⟨⟨⟨h1,h2⟩,h3⟩,h4⟩:=h;have hne:l ≠ []:=by intro e;rw[e] at h1;simp at h1
  have he:=oR l h3 h4 hne;have hp:=sJ l h3 h4 hne;have hlt:=mR l h3;have h5:10^l.length<=10^4:=Nat.pow_le_pow_right (by decide) h2;have e4:(10:Nat)^4=10000:=by decide
  refine⟨bK l,Iw hne h2 h3,by omega,by omega,?_⟩;unfold Lib.itoa;rw[if_neg (by omega),Int.toNat_natCast,<-he]
 ·rintro⟨n,_,h1,h2,h3⟩;unfold Lib.itoa at h3;rw[if_neg (by omega)] at h3;subst h3;unfold oL;have hl:=jU n.toNat 4 (by decide) (by have e4:(10:Nat)^4=10000:=(by decide);omega);have hp:=Lib.nDigits_pos n.toNat;rw[<-Lib.decDigits_length] at hl hp;simp only[Bool.and_eq_true,decide_eq_true_eq];exact⟨⟨⟨hp,hl⟩,iJ _⟩,jO _ (by omega)⟩
theorem Qu{l:List UInt8}(h:∀v,Lib.atoiAll l ≠ .ok v):oL l=false:=by
 cases hn:oL l with
 |false=>rfl
 |true=>obtain⟨n,h1,_⟩:=(Cs l).1 hn;exact absurd h1 (h n)
theorem Uk{l:List UInt8}{v:Int}(h:Lib.atoiAll l=.ok v):oL l=(decide (1<=v)&&decide (v<=9999)&&(Lib.itoa v==l)):=by
 rw[Bool.eq_iff_iff,Cs];simp only[Bool.and_eq_true,decide_eq_true_eq,beq_iff_eq];constructor
 ·rintro⟨n,h1,h2,h3,h4⟩;rw[h] at h1;injection h1 with h1
  subst h1;exact⟨⟨h2,h3⟩,h4⟩
 ·rintro⟨⟨h2,h3⟩,h4⟩;exact⟨v,h,h2,h3,h4⟩
theorem aAa{l:List UInt8}{v:Int}(h:Lib.atoiAll l=.ok v):-9223372036854775808<=v/\v<=9223372036854775807:=by
 cases l with
 |nil=>simp[Lib.atoiAll] at h
 |cons c r =>
  simp only[Lib.atoiAll] at h;split at h
  ·cases h
  ·cases h
  ·rename_i u hu;split at h
   ·cases h
   ·split at h
    ·cases h
    ·injection h with h
     subst h;split <;> omega
theorem Vi(l:List UInt8)(w:World)(hE:iE w)(hl:l.length<4294967281):
  Calls prog 119 #[.string ⟨l.toArray⟩,.string ⟨#[47]⟩] w fun e w'=>e=.returned (.tuple #[.string ⟨(Lib.cut l [47]).1.toArray⟩,.string ⟨(Lib.cut l [47]).2.1.toArray⟩,.bool (Lib.cut l [47]).2.2])/\Below w.heap.size w w':=by
 obtain⟨m,hm⟩:=hE.len;exact(strings_Cut ⟨l.toArray⟩ ⟨#[47]⟩ m w (by rw[aV];exact hl) hm).mono fun e w' ⟨he,n,hw⟩=>⟨he,by rw[hw];exact aD (Br _ _) n⟩
theorem Vw(l:List UInt8)(v:Int)(h:Lib.atoiAll l=.ok v)(w:World)(hl:l.length<4294967281):
  Calls prog 120 #[.string ⟨l.toArray⟩] w fun e w'=>e=.returned (.tuple #[.int .i64 v,.nilIface])/\Below w.heap.size w w' :=
 (strconv_Atoi_ok ⟨l.toArray⟩ (by rw[aV];omega) v h w).mono fun e w' ⟨he,hw⟩=>⟨he,by
  rcases hw with rfl|⟨t,rfl⟩
  ·exact Br _ _
  ·exact Lib.bytesWorld_below _ _ _⟩
theorem Zz(l:List UInt8)(h:∀v,Lib.atoiAll l ≠ .ok v)(w:World)(hE:iE w)(hl:l.length<4294967281):
  Calls prog 120 #[.string ⟨l.toArray⟩] w fun e w'=>∃n p,e=.returned (.tuple #[.int .i64 n,.iface 210 p])/\Below w.heap.size w w':=by
 have hs:=Any.strconv_Atoi_syntax laysC172 ⟨l.toArray⟩ (by rw[aV];omega);have hr:=Any.strconv_Atoi_range laysC172 ⟨l.toArray⟩ (by rw[aV];omega);obtain⟨t1,p1,c1⟩:=hE.syn;obtain⟨t2,p2,c2⟩:=hE.rng;rcases hq:Lib.atoiAll l with v|_|_
 ·exact absurd hq (h v)
 ·exact(hs hq _ w c1 (.inr ⟨t1,p1,rfl⟩)).mono fun e w' ⟨N,he,_,_,hb⟩=>⟨_,_,he,hb⟩
 ·exact(hr hq _ w c2 (.inr ⟨t2,p2,rfl⟩)).mono fun e w' ⟨N,he,_,_,hb⟩=>⟨_,_,he,hb⟩
end
section
open Go.RowKit Num
attribute [local go_sem] eW eN aV
theorem Zt(l:List UInt8):(Lib.cut l [47]).1.length<=l.length/\(Lib.cut l [47]).2.1.length<=l.length:=by
 unfold Lib.cut;split <;> simp
 omega
theorem tD{p:Nat->Prop}{k:Nat}(h:∀j,j<k->p j)(hk:p k):∀j,j<k+1->p j:=fun j hj=>by
 rcases Nat.lt_or_ge j k with g|g
 ·exact h j g
 ·obtain rfl:j=k:=by omega
  exact hk
theorem Tz(l:List UInt8)(k:Nat)(h:k<l.length):Lib.occAt l [47] k=(l.getD k 0==47):=by
 unfold Lib.occAt;rw[List.drop_eq_getElem_cons h];simp[List.isPrefixOf,h];exact Bool.beq_comm
theorem Qd(l:List UInt8)(k:Nat)(h:l.length<=k):Lib.occAt l [47] k=false:=by
 unfold Lib.occAt;rw[List.drop_eq_nil_of_le h];rfl
theorem aDl(l:List UInt8)(k:Nat)(h:k<l.length)(h1:l.getD k 0=47)(h2:∀j,j<k->l.getD j 0≠47):Lib.cut l [47]=(l.take k,l.drop (k+1),true):=by
 have hi:=Lib.index_first (s:=l) (sub:=[47]) (i:=k) (by omega) (by rw[Tz l k h,h1];rfl) (fun j hj=>by rw[Tz l j (by omega)];simpa using h2 j hj);unfold Lib.cut;rw[hi,if_pos (by omega)];simp
theorem Vh(l:List UInt8)(h2:∀j,j<l.length->l.getD j 0≠47):Lib.cut l [47]=(l,[],false):=by
 have hi:=Lib.index_none (s:=l) (sub:=[47]) (fun j hj=>by
  by_cases h:j<l.length
  ·rw[Tz l j h];simpa using h2 j h
  ·exact Qd l j (by omega))
 unfold Lib.cut;rw[hi,if_neg (by omega)]
theorem Yp(l:List UInt8)(k:Nat)(h:k<l.length)(h1:l.getD k 0=47)(h2:∀j,j<k->l.getD j 0≠47):sP l=(oL (l.drop (k+1))&&dC (l.take k)):=by
 unfold sP;rw[aDl l k h h1 h2]
theorem Qv(l:List UInt8)(h2:∀j,j<l.length->l.getD j 0≠47):sP l=false:=by
 unfold sP;rw[Vh l h2];rfl
theorem aN7(l:List UInt8)(w:World)(hE:iE w)(hl:l.length<4294967281):
  Calls prog 126 #[.string ⟨l.toArray⟩] w fun e w'=>e=.returned (.bool (sP l))/\Below w.heap.size w w':=by
 have H1:=Hd (Vi l w hE hl);have hc:=Hd (show sP l=(oL (Lib.cut l [47]).2.1&&dC (Lib.cut l [47]).1) from rfl);have hcl:=Zt l;generalize(Lib.cut l [47]).1=x at *;generalize(Lib.cut l [47]).2.1=y at *;generalize(Lib.cut l [47]).2.2=z at *;generalize sP l=r at *;have H4:=Hd (fun W=>qW x W (by omega));have HE:=Hd hE;rcases Classical.em (∃v,Lib.atoiAll y=.ok v) with⟨v,hv⟩|hv
 ·have H2:=Hd (fun W (_:True)=>Vw y v hv W (by omega));have hb:=aAa hv;have H3:=Hd (fun W hW=>Uj v hb.1 hb.2 W hW);have hn:=Hd (Uk hv);clear hv hE;obtain⟨hbd1,hbd2⟩:=hb;generalize oL y=ny at *;generalize dC x=nx at *;generalize Lib.itoa v=t at *
  by_cases g1:1<=v <;> by_cases g2:v<=9999 <;> by_cases g3:t=y <;> cases nx
  all_goals try(exfalso;omega)
  all_goals
   go_enter func126,ntmps126;go_wp2_with fail;refine H1.out.mono ?_;rintro e w1 ⟨rfl,hb1⟩;go_wp2_with fail;refine(H2.out _ trivial).mono ?_;rintro e w2 ⟨rfl,hb2⟩;go_wp2_with (first|(go_at_call 59;refine(H4.out _).mono ?_;rintro e w4 ⟨rfl,hb4⟩)|(go_at_call 90;refine(H3.out _ (HE.out.below (by first|exact aA (aA hb1 hb2) hb4|exact aA hb1 hb2))).mono ?_;rintro e w3 ⟨rfl,hb3⟩));go_ret;refine⟨dG (by rw[hc.out,hn.out];simp[g1,g2,g3]),?_⟩
   first|exact aA (aA (aA hb1 hb2) hb3) hb4|exact aA (aA (aA hb1 hb2) hb4) hb3|exact aA (aA hb1 hb2) hb4|exact aA (aA hb1 hb2) hb3|exact aA hb1 hb2
 ·have hv':∀v,Lib.atoiAll y ≠ .ok v:=fun v h=>hv ⟨v,h⟩
  have H2:=Hd (fun W hW=>Zz y hv' W hW (by omega));have hn:=Hd (Qu hv');have H3:True:=trivial;clear hv hv' hE;generalize oL y=ny at *;generalize dC x=nx at *;cases nx
  all_goals
   go_enter func126,ntmps126;go_wp2_with fail;refine H1.out.mono ?_;rintro e w1 ⟨rfl,hb1⟩;go_wp2_with fail;refine(H2.out _ (HE.out.below hb1)).mono ?_;rintro e w2 ⟨n,p,rfl,hb2⟩;go_wp2_with (first|(go_at_call 59;refine(H4.out _).mono ?_;rintro e w4 ⟨rfl,hb4⟩)|(go_at_call 90;skip));go_ret;refine⟨dG (by rw[hc.out,hn.out];simp),?_⟩
   first|exact aA (aA (aA hb1 hb2) hb3) hb4|exact aA (aA (aA hb1 hb2) hb4) hb3|exact aA (aA hb1 hb2) hb4|exact aA (aA hb1 hb2) hb3|exact aA hb1 hb2
theorem aNh(l:List UInt8)(w:World)(hE:iE w)(hl:l.length<4294967281):
  Calls prog 60 #[.string ⟨l.toArray⟩] w fun e w'=>e=.returned (.bool (sP l))/\Below w.heap.size w w':=by
 have H1:=Hd (Vi l w hE hl);have hc:=Hd (show sP l=(oL (Lib.cut l [47]).2.1&&dC (Lib.cut l [47]).1) from rfl);have hcl:=Zt l;generalize(Lib.cut l [47]).1=x at *;generalize(Lib.cut l [47]).2.1=y at *;generalize(Lib.cut l [47]).2.2=z at *;generalize sP l=r at *;have H4:=Hd (fun W=>qW x W (by omega));have HE:=Hd hE;rcases Classical.em (∃v,Lib.atoiAll y=.ok v) with⟨v,hv⟩|hv
 ·have H2:=Hd (fun W (_:True)=>Vw y v hv W (by omega));have hb:=aAa hv;have H3:=Hd (fun W hW=>Uj v hb.1 hb.2 W hW);have hn:=Hd (Uk hv);clear hv hE;obtain⟨hbd1,hbd2⟩:=hb;generalize oL y=ny at *;generalize dC x=nx at *;generalize Lib.itoa v=t at *
  by_cases g1:1<=v <;> by_cases g2:v<=9999 <;> by_cases g3:t=y <;> cases nx
  all_goals try(exfalso;omega)
  all_goals
   go_enter func60,ntmps60;go_wp2_with fail;refine H1.out.mono ?_;rintro e w1 ⟨rfl,hb1⟩;go_wp2_with fail;refine(H2.out _ trivial).mono ?_;rintro e w2 ⟨rfl,hb2⟩;go_wp2_with (first|(go_at_call 59;refine(H4.out _).mono ?_;rintro e w4 ⟨rfl,hb4⟩)|(go_at_call 90;refine(H3.out _ (HE.out.below (by first|exact aA (aA hb1 hb2) hb4|exact aA hb1 hb2))).mono ?_;rintro e w3 ⟨rfl,hb3⟩));go_ret;refine⟨dG (by rw[hc.out,hn.out];simp[g1,g2,g3]),?_⟩
   first|exact aA (aA (aA hb1 hb2) hb3) hb4|exact aA (aA (aA hb1 hb2) hb4) hb3|exact aA (aA hb1 hb2) hb4|exact aA (aA hb1 hb2) hb3|exact aA hb1 hb2
 ·have hv':∀v,Lib.atoiAll y ≠ .ok v:=fun v h=>hv ⟨v,h⟩
  have H2:=Hd (fun W hW=>Zz y hv' W hW (by omega));have hn:=Hd (Qu hv');have H3:True:=trivial;clear hv hv' hE;generalize oL y=ny at *;generalize dC x=nx at *;cases nx
  all_goals
   go_enter func60,ntmps60;go_wp2_with fail;refine H1.out.mono ?_;rintro e w1 ⟨rfl,hb1⟩;go_wp2_with fail;refine(H2.out _ (HE.out.below hb1)).mono ?_;rintro e w2 ⟨n,p,rfl,hb2⟩;go_wp2_with (first|(go_at_call 59;refine(H4.out _).mono ?_;rintro e w4 ⟨rfl,hb4⟩)|(go_at_call 90;skip));go_ret;refine⟨dG (by rw[hc.out,hn.out];simp),?_⟩
   first|exact aA (aA (aA hb1 hb2) hb3) hb4|exact aA (aA (aA hb1 hb2) hb4) hb3|exact aA (aA hb1 hb2) hb4|exact aA (aA hb1 hb2) hb3|exact aA hb1 hb2
theorem aOe(l:List UInt8)(w:World)(hl:l.length<=9000000000000000000):
  Calls prog 169 #[.string ⟨l.toArray⟩] w fun e w'=>e=.returned (.bool (oL l))/\w=w':=by
 have hd:=Hd (show oL l=(decide (1<=l.length)&&decide (l.length<=4)&&l.all bF&&decide (l.head?≠some 48)) from rfl)
 by_cases g1:l.length<1
 ·have g1':(l.length:Int)<1:=by omega
  go_enter func169,ntmps169;go_wp2;go_ret;exact⟨dG (by rw[hd.out];simp;omega),rfl⟩
 have g1':¬ (l.length:Int)<1:=by omega
 by_cases g2:4<l.length
 ·have g2':(4:Int)<l.length:=by omega
  go_enter func169,ntmps169;go_wp2;go_ret;exact⟨dG (by rw[hd.out];simp;omega),rfl⟩
 have g2':¬ (4:Int)<l.length:=by omega
 have hsz0:0<(⟨l.toArray⟩:ByteArray).size:=by rw[aV];omega
 have hg0:=Hd (gF l 0 hsz0);have hh:=Hd (show l.head?=some (l.getD 0 0) by cases l with
  |nil=>simp at g1
  |cons a r=>simp)
 by_cases g3:((⟨l.toArray⟩:ByteArray)[0]'hsz0).toNat=48
 ·have g3':(((⟨l.toArray⟩:ByteArray)[0]'hsz0).toNat:Int)=48:=by omega
  go_enter func169,ntmps169;go_wp2;go_ret;exact⟨dG (by
   have e:l.getD 0 0=48:=by rw[<-hg0.out];apply UInt8.toNat.inj;simpa using g3
   rw[hd.out,hh.out,e];simp),rfl⟩
 have g3':¬ (((⟨l.toArray⟩:ByteArray)[0]'hsz0).toNat:Int)=48:=by omega
 have e:Hid (l.getD 0 0≠48):=fun h=>by rw[<-hg0.out] at h;rw[h] at g3;exact g3 rfl
 go_enter func169,ntmps169;go_wp2;go_loop [3] (fun i=>∃k:Nat,k<=l.length/\i=.int .i64 (k:Int)/\Hid (∀j,j<k->bF (l.getD j 0)=true)) (fun i=>l.length-(intOf i).toNat)
 case atStart=>exact⟨0,Nat.zero_le _,rfl,fun j hj=>absurd hj (Nat.not_lt_zero j)⟩
 case round =>
  obtain⟨k,hk,rfl,hp⟩:=hrel
  by_cases hlt:k<l.length
  ·have hsz:k<(⟨l.toArray⟩:ByteArray).size:=by rw[aV];exact hlt
   have hgk:=Hd (congrArg UInt8.toNat (gF l k hsz));have hdef:=Hd (dO (l.getD k 0));rw[<-hgk.out] at hdef
   by_cases n1:(((⟨l.toArray⟩:ByteArray)[k]'hsz).toNat:Int)<48
   ·have e1:bF (l.getD k 0)=false:=by cases hb:bF (l.getD k 0) with
     |false=>rfl
     |true=>have:=hdef.out.1 hb;omega
    have hs2:=Hd (fP hlt e1);clear hdef hgk e1 hg0;go_wp2;go_ret;exact⟨dG (by rw[hd.out,hs2.out];simp),rfl⟩
   ·by_cases n2:(57:Int)<((⟨l.toArray⟩:ByteArray)[k]'hsz).toNat
    ·have e1:bF (l.getD k 0)=false:=by cases hb:bF (l.getD k 0) with
      |false=>rfl
      |true=>have:=hdef.out.1 hb;omega
     have hs2:=Hd (fP hlt e1);clear hdef hgk e1 hg0;go_wp2;go_ret;exact⟨dG (by rw[hd.out,hs2.out];simp),rfl⟩
    ·have hs2:=Hd (tD (p:=fun j=>bF (l.getD j 0)=true) hp.out (hdef.out.2 (by omega)));clear hdef hgk hg0;go_wp2;go_round
     case rel=>exact⟨k+1,by omega,by go_num,hs2⟩
     case measure=>simp[intOf];omega
  ·obtain rfl:k=l.length:=by omega
   have hs2:=Hd (oU hp.out);go_wp2;go_ret;exact⟨dG (by rw[hd.out,hs2.out,hh.out];have:=e.out;simp at this;simp[this];omega),rfl⟩
theorem aOn(l:List UInt8)(w:World)(hl:l.length<=9000000000000000000):
  Calls prog 132 #[.string ⟨l.toArray⟩] w fun e w'=>e=.returned (.bool (sP l))/\w=w':=by
 have ha:=Hd (Yp l);have hn:=Hd (Qv l);go_enter func132,ntmps132;go_wp2;go_loop [3] (fun i=>∃k:Nat,k<=l.length/\i=.int .i64 (k:Int)/\Hid (∀j,j<k->l.getD j 0≠47)) (fun i=>l.length-(intOf i).toNat)
 case atStart=>exact⟨0,Nat.zero_le _,rfl,fun j hj=>absurd hj (Nat.not_lt_zero j)⟩
 case round =>
  obtain⟨k,hk,rfl,hp⟩:=hrel
  by_cases hlt:k<l.length
  ·have hsz:k<(⟨l.toArray⟩:ByteArray).size:=by rw[aV];exact hlt
   have hgk:=Hd (gF l k hsz)
   by_cases n1:(((⟨l.toArray⟩:ByteArray)[k]'hsz).toNat:Int)=47
   ·have e1:Hid (l.getD k 0=47):=by
     show _=_;rw[<-hgk.out];apply UInt8.toNat.inj;have:((⟨l.toArray⟩:ByteArray)[k]'hsz).toNat=47:=by omega
     rw[this];rfl
    have HA:=Hd (ha.out k hlt e1.out hp.out);have H1:=Hd (fun m W (e:m=l.take k)=>show Calls prog 47 #[.string ⟨m.toArray⟩] W (fun e w'=>e=.returned (.bool (dC (l.take k)))/\W=w') by subst e;exact mL (l.take k) W (by simp;omega));have H2:=Hd (fun m W (e:m=l.drop (k+1))=>show Calls prog 169 #[.string ⟨m.toArray⟩] W (fun e w'=>e=.returned (.bool (oL (l.drop (k+1))))/\W=w') by subst e;exact aOe (l.drop (k+1)) W (by simp;omega));clear hgk e1 ha hn hp;generalize dC (l.take k)=r1 at *;generalize oL (l.drop (k+1))=r2 at *;cases r1
    all_goals
     go_wp2_with (first|(go_at_call 47;refine(H1.out _ _ (by simp)).mono ?_;rintro e w1 ⟨rfl,rfl⟩)|(go_at_call 169;refine(H2.out _ _ (by rw[List.take_of_length_le];simp)).mono ?_;rintro e w1 ⟨rfl,rfl⟩));go_ret;exact⟨dG (by rw[HA.out];simp),rfl⟩
   ·have e1:l.getD k 0≠47:=fun h=>by
     rw[<-hgk.out] at h;rw[h] at n1;exact n1 rfl
    have hs2:=Hd (tD (p:=fun j=>l.getD j 0≠47) hp.out e1);clear hgk e1;go_wp2;go_round
    case rel=>exact⟨k+1,by omega,by go_num,hs2⟩
    case measure=>simp[intOf];omega
  ·obtain rfl:k=l.length:=by omega
   go_wp2;go_ret;exact⟨dG (by rw[hn.out hp.out]),rfl⟩
end
end Go.Proofs.YtiloklnjjfaagaaGreatDoor
