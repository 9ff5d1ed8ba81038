/- R14 -/
import Derived.Test.YtgopbldkhlmbnaaGreatDoorJRCheck
import Derived.Test.YtgopbldkhlmbnaaGreatDoorJLog
set_option maxHeartbeats 16000000
set_option maxRecDepth 100000
namespace Go.Proofs.YtgopbldkhlmbnaaGreatDoor
open Go Go.RowKit Num
theorem R14Check_any (xs:List FactV) (a:Option Addr) (c:Nat) (w:World) (hn:xs.length≤1000000) (hr:Facts w a xs) (hok:∀ x,x∈xs→x.f.tight) :
  Calls Tryz.prog 18 #[.slice a xs.length c] w fun e w'=>e = .returned (.int .i64 (lcheck (xs.map FactV.f)))∧Below w.heap.size w w':=by
 obtain ⟨res,hres⟩:∃ res,res=lcheck (xs.map FactV.f):=⟨_,rfl⟩
 rw [← hres]
 unfold lcheck at hres
 rw [List.length_map] at hres
 have HR:=Lib.hid hr
 have HOK:=Lib.hid hok
 by_cases hbig:1000 < xs.length
 ·rw [if_pos hbig] at hres
  have HV:=Lib.hid hres
  clear hres hr hok
  generalize xs.length=n at *
  go_enter Tryz.func18,Tryz.ntmps18
  go_wp2
  go_ret
  exact ⟨by rw [HV.out];rfl,Below.refl _ _⟩
 ·rw [if_neg hbig] at hres
  have HV:Hid (res=lgo (prevOf (xs.map FactV.f) 0) ((xs.map FactV.f).drop 0)):=hres
  clear hres hr hok
  go_enter Tryz.func18,Tryz.ntmps18
  go_wp2_with fail
  go_loopw [3] (fun iv wr => ∃ k:Nat,k≤xs.length∧iv = .int .i64 k∧Hid (res=lgo (prevOf (xs.map FactV.f) k) ((xs.map FactV.f).drop k))∧Hid (Below w.heap.size w wr)) (fun iv _=>xs.length - (intOf iv).toNat)
  case atStart=>exact ⟨0,Nat.zero_le _,rfl,HV,Below.refl _ _⟩
  case round =>
   clear HV
   obtain ⟨k,hk,rfl,HS,HB⟩:=hrel
   by_cases hlt:k < xs.length
   ·obtain ⟨x,hx⟩:∃ x,xs[k]? = some x:=⟨xs[k],List.getElem?_eq_getElem hlt⟩
    obtain ⟨b,off,rfl,hbl,hc⟩:=HR.out.1.addr (k:=k) (cs:=x.cells) (by rw [List.getElem?_map,hx];rfl)
    have hxm:=List.mem_of_getElem? hx
    have HX:=Lib.hid (And.intro (HOK.out x hxm) (HR.out.2 x hxm))
    have hfk:(xs.map FactV.f)[k]? = some x.f:=by rw [List.getElem?_map,hx];rfl
    have HS2:=Lib.hid (HS.out.trans (lgo_at hfk))
    have HC:Hid (∀ j v,x.arr.toList[j]? = some v→wr.cell? ⟨b,off+k * 21+j,none⟩=some v):=fun j v hv=>(HB.out.cell (p:=⟨b,off+k * 21+j,none⟩) hbl).trans (hc j v hv)
    have HSZ:Hid ((Tryz.prog.info? 36).map (·.size)=some x.arr.size):=factSize x.f x.pa x.oa x.pc x.oc
    have HCK:Hid (Calls Tryz.prog 20 #[.agg x.arr] wr fun e w'=>e = .returned (.int .i64 (fcheck x.f))∧Below wr.heap.size wr w'):=RCheck13_any x.f x.pa x.oa x.pc x.oc wr HX.out.1 (HX.out.2.below HB.out)
    clear HS
    generalize x.arr=fc at *
    go_wp2_with (refine wpList_load_at rfl 36 _ rfl b (off+k * 21) rfl fc _ HC.out Tryz.underlying36 rfl HSZ.out ?_)
    refine HCK.out.mono ?_
    rintro e w2 ⟨rfl,hb2⟩
    have HB2:=Lib.hid (below_up HB.out hb2)
    have c1:=(HB2.out.cell (p:=⟨b,off+k * 21+1,none⟩) hbl).trans (hc 1 _ rfl)
    clear hb2 HC HSZ HCK hc
    generalize fcheck x.f=fe at *
    by_cases he:fe=0
    ·subst he
     have HS3:Hid (res=if Option.any (fun s=>decide (x.f.stamp < s)) (prevOf (xs.map FactV.f) k)=true then 8 else lgo (prevOf (xs.map FactV.f) (k+1)) ((xs.map FactV.f).drop (k+1))):=by show _=_;rw [HS2.out];rfl
     clear HS2
     cases k with
     | zero =>
      have HS4:Hid (res=lgo (prevOf (xs.map FactV.f) (0+1)) ((xs.map FactV.f).drop (0+1))):=by show _=_;rw [HS3.out];rfl
      clear HS3
      go_wp2_with fail
      go_quiet (fail)
      go_wp2
      go_roundw
      case rel=>exact ⟨0+1,by omega,by go_num,HS4,below_drewN HB2.out _⟩
      case measure=>simp [intOf];omega
     | succ m =>
      obtain ⟨y,hy⟩:∃ y,xs[m]? = some y:=⟨xs[m],List.getElem?_eq_getElem (by omega)⟩
      have hp:prevOf (xs.map FactV.f) (m+1)=some y.f.stamp:=by unfold prevOf;rw [if_neg (by omega)];simp [hy]
      have cp:w2.cell? ⟨b,off+m * 21+1,none⟩=some (.int .i64 y.f.stamp):=by
       obtain ⟨b',off',ea,_,hc'⟩:=HR.out.1.addr (k:=m) (cs:=y.cells) (by rw [List.getElem?_map,hy];rfl)
       injection ea with ea
       injection ea with e1 e2
       subst e1 e2
       exact (HB2.out.cell (p:=⟨b,off+m * 21+1,none⟩) hbl).trans (hc' 1 _ rfl)
      have hlm:m < xs.length:=by omega
      rw [hp] at HS3
      clear hp hfk hx hxm hy
      generalize x.f.stamp=sx at *
      generalize y.f.stamp=sy at *
      have hg1:decide ((0:Int) < (m:Int)+1)=true:=by simp
      by_cases hcmp:sx < sy
      ·have HV2:Hid (res=8):=by show _=_;rw [HS3.out,if_pos (by simpa using hcmp)]
       clear HS3
       go_wp2_with fail
       go_quiet (fail)
       go_wp2
       go_ret
       exact ⟨by rw [HV2.out];rfl,below_drewN HB2.out _⟩
      ·have HS4:Hid (res=lgo (prevOf (xs.map FactV.f) (m+1+1)) ((xs.map FactV.f).drop (m+1+1))):=by show _=_;rw [HS3.out,if_neg (by simpa using hcmp)]
       clear HS3
       go_wp2_with fail
       go_quiet (fail)
       go_wp2
       go_roundw
       case rel=>exact ⟨m+1+1,by omega,by go_num,HS4,below_drewN HB2.out _⟩
       case measure=>simp [intOf];omega
    ·have HV2:Hid (res=fe):=by show _=_;rw [HS2.out,if_pos he]
     have he':(fe == 0)=false:=by simpa using he
     clear HS2
     go_wp2
     go_ret
     exact ⟨by rw [HV2.out];rfl,HB2.out⟩
   ·obtain rfl:k=xs.length:=by omega
    have HV2:Hid (res=0):=by show _=_;rw [HS.out,List.drop_eq_nil_of_le (by simp)];rfl
    clear HS
    go_wp2
    go_ret
    exact ⟨by rw [HV2.out];rfl,HB.out⟩
structure LogT (w:World) (a:Option Addr) (c:Nat) (xs:List FactV):Prop where
 facts:Facts w a xs
 tight:∀ x,x∈xs→x.f.tight
 len:xs.length≤1000000
 cap:xs.length≤c
theorem LogT.below {w w':World} {a:Option Addr} {c:Nat} {xs:List FactV} (h:LogT w a c xs) (hb:Below w.heap.size w w'):LogT w' a c xs:=⟨h.facts.below hb,h.tight,h.len,h.cap⟩
theorem R14checkK_any (xs:List FactV) (a:Option Addr) (c:Nat) (known:Int) (w:World) (hl:LogT w a c xs) :
  Calls Tryz.prog 61 #[.slice a xs.length c,.int .i64 known] w fun e w'=>e = .returned (.int .i64 (lcheckK (xs.map FactV.f) known))∧Below w.heap.size w w':=by
 have HC:=Lib.hid (R14Check_any xs a c w hl.len hl.facts hl.tight)
 unfold lcheckK
 rw [List.length_map]
 generalize lcheck (xs.map FactV.f)=le at *
 generalize xs.length=n at *
 clear hl
 by_cases h0:le=0
 ·subst h0
  rw [if_neg (by simp)]
  by_cases h1:known < 0
  ·rw [if_pos (.inl h1)]
   go_enter Tryz.func61,Tryz.ntmps61
   go_wp2_with fail
   refine HC.out.mono ?_
   rintro e w1 ⟨rfl,hb⟩
   go_wp2
   go_ret
   exact ⟨rfl,hb⟩
  ·by_cases h2:(n:Int) < known
   ·rw [if_pos (.inr h2)]
    go_enter Tryz.func61,Tryz.ntmps61
    go_wp2_with fail
    refine HC.out.mono ?_
    rintro e w1 ⟨rfl,hb⟩
    go_wp2
    go_ret
    exact ⟨rfl,hb⟩
   ·rw [if_neg (by omega)]
    go_enter Tryz.func61,Tryz.ntmps61
    go_wp2_with fail
    refine HC.out.mono ?_
    rintro e w1 ⟨rfl,hb⟩
    go_wp2
    go_ret
    exact ⟨rfl,hb⟩
 ·rw [if_pos h0]
  have h0':(le == 0)=false:=by simpa using h0
  go_enter Tryz.func61,Tryz.ntmps61
  go_wp2_with fail
  refine HC.out.mono ?_
  rintro e w1 ⟨rfl,hb⟩
  go_wp2
  go_ret
  exact ⟨rfl,hb⟩
theorem known_take (fs:List FactP) (st:Int) {k:Nat} {f:FactP} (h:fs[k]? = some f):knownN (fs.take (k+1)) st=knownN (fs.take k) st+(if f.stamp≤st then 1 else 0):=by
 unfold knownN
 obtain ⟨hl,he⟩:=List.getElem?_eq_some_iff.1 h
 rw [List.take_succ_eq_append_getElem hl,List.countP_append,he]
 simp [List.countP_cons]
theorem R14Known_any (xs:List FactV) (a:Option Addr) (c:Nat) (stamp:Int) (w:World) (hl:LogT w a c xs) :
  Calls Tryz.prog 17 #[.slice a xs.length c,.int .i64 stamp] w fun e w'=>e = .returned (if lcheck (xs.map FactV.f)=0 then .tuple #[.int .i64 (knownN (xs.map FactV.f) stamp:Nat),.int .i64 0] else .tuple #[.int .i64 0,.int .i64 1])∧Below w.heap.size w w':=by
 have HC:=Lib.hid (R14Check_any xs a c w hl.len hl.facts hl.tight)
 have hlen:=hl.len
 have HL:=Lib.hid hl.facts
 clear hl
 by_cases h0:lcheck (xs.map FactV.f)=0
 ·rw [if_pos h0]
  rw [h0] at HC
  clear h0
  go_enter Tryz.func17,Tryz.ntmps17
  go_wp2_with fail
  refine HC.out.mono ?_
  rintro e w1 ⟨rfl,hb⟩
  have HB:=Lib.hid hb
  clear hb
  go_wp2_with fail
  go_loopw [6,7] (fun nv iv wr => ∃ n k:Nat,k≤xs.length∧n≤k∧nv = .int .i64 n∧iv = .int .i64 k∧Hid (knownN ((xs.map FactV.f).take k) stamp=n)∧Hid (Below w.heap.size w wr)) (fun _ iv _=>xs.length - (intOf iv).toNat)
  case atStart=>exact ⟨0,0,Nat.zero_le _,Nat.le_refl _,rfl,rfl,rfl,HB⟩
  case round =>
   obtain ⟨n,k,hk,hnk,rfl,rfl,HN,HBr⟩:=hrel
   by_cases hlt:k < xs.length
   ·obtain ⟨x,hx⟩:∃ x,xs[k]? = some x:=⟨xs[k],List.getElem?_eq_getElem hlt⟩
    obtain ⟨b,off,rfl,hbl,_,hc1⟩:=HL.out.cell hx
    have c1:=(HBr.out.cell (p:=⟨b,off+k * 21+1,none⟩) hbl).trans hc1
    have HT:=Lib.hid (known_take (xs.map FactV.f) stamp (k:=k) (f:=x.f) (by rw [List.getElem?_map,hx];rfl))
    clear hx hc1
    generalize x.f.stamp=sx at *
    by_cases hs:sx≤stamp
    ·have HN2:Hid (knownN ((xs.map FactV.f).take (k+1)) stamp=n+1):=by have h:=HT.out;rw [if_pos hs,HN.out] at h;exact h
     clear HN HT
     go_wp2
     go_roundw
     case rel=>exact ⟨n+1,k+1,by omega,by omega,by go_num,by go_num,HN2,HBr⟩
     case measure=>simp [intOf];omega
    ·have HN2:Hid (knownN ((xs.map FactV.f).take (k+1)) stamp=n):=by have h:=HT.out;rw [if_neg hs,HN.out] at h;exact h
     clear HN HT
     go_wp2
     go_roundw
     case rel=>exact ⟨n,k+1,by omega,by omega,rfl,by go_num,HN2,HBr⟩
     case measure=>simp [intOf];omega
   ·obtain rfl:k=xs.length:=by omega
    have HV:Hid (knownN (xs.map FactV.f) stamp=n):=by have h:=HN.out;rw [List.take_of_length_le (by simp)] at h;exact h
    clear HN
    go_wp2
    go_ret2
    exact ⟨by rw [HV.out];rfl,HBr.out⟩
 ·rw [if_neg h0]
  generalize lcheck (xs.map FactV.f)=le at *
  have h0':(le == 0)=false:=by simpa using h0
  go_enter Tryz.func17,Tryz.ntmps17
  go_wp2_with fail
  refine HC.out.mono ?_
  rintro e w1 ⟨rfl,hb⟩
  go_wp2
  go_ret2
  exact ⟨rfl,hb⟩
end Go.Proofs.YtgopbldkhlmbnaaGreatDoor
