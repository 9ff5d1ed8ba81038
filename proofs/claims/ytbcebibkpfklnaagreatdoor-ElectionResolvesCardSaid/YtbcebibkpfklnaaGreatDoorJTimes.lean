/- Times Divide -/
import Derived.Test.YtbcebibkpfklnaaGreatDoorJPlus
import Derived.Test.YtbcebibkpfklnaaGreatDoorJNum
set_option maxHeartbeats 16000000
set_option maxRecDepth 100000
namespace Go.Proofs.YtbcebibkpfklnaaGreatDoor
section
open Go.RowKit Num
def Grp (w:World) (B:Nat) (o:List Nat):Prop:=w.heap[B]? = some (.cells (gs o).toArray 192 (0,0))
theorem Grp.lt {w:World} {B:Nat} {o:List Nat} (h:Grp w B o):B < w.heap.size:=(Array.getElem?_eq_some_iff.1 h).1
theorem Grp.cell {w:World} {B:Nat} {o:List Nat} (h:Grp w B o) {k:Nat} (hk:k < o.length):w.cell? ⟨B,k,none⟩=some (.int .u64 ((o.getD k 0:Nat):Int)):=by
 rw [cell_at h]
 have:=gs_get o k hk
 simpa using this
theorem Grp.frozen {w:World} {B:Nat} {o:List Nat} (h:Grp w B o) (k:Nat):w.frozen? ⟨B,k,none⟩=false:=frozen_at h k
theorem gs_set (o:List Nat) (k n:Nat):gs (o.set k n)=(gs o).set k (.int .u64 (n:Int)):=by simp [gs,List.map_set]
theorem Grp.set {w:World} {B:Nat} {o:List Nat} (h:Grp w B o) (k n:Nat) {v:Int} (hv:v=n):Grp (w.setCell ⟨B,k,none⟩ (.int .u64 v)) B (o.set k n):=by
 subst hv
 unfold Grp
 rw [heap_setCell_same w B k _ _ _ h,gs_set]
 simp
theorem Grp.below {w w':World} {B:Nat} {o:List Nat} (h:Grp w B o) (hb:Below w.heap.size w w'):Grp w' B o:=(hb.block B h.lt).trans h
theorem Grp.row {w:World} {B:Nat} {o:List Nat} (h:Grp w B o):Row w (some ⟨B,0,none⟩) (gs o):=by
 have:w.heap[B]? = some (.cells (gs o ++ []).toArray 192 (0,0)):=by rw [List.append_nil];exact h
 exact row_of_heap this
theorem Grp.other {w:World} {B:Nat} {o:List Nat} (h:Grp w B o) {p:Addr} (hne:B ≠ p.block) (v:Value):Grp (w.setCell p v) B o:=(Below.heap_setCell w p v B hne).trans h
theorem Grp.drewN {w:World} {B:Nat} {o:List Nat} (h:Grp w B o) (n:Nat):Grp (w.drewN n) B o:=h
theorem zeros_gs (n:Nat):zeros n=gs (List.replicate n 0):=by simp [zeros,gs]
theorem Grp.made (w:World) (n:Nat):Grp (w.alloc (.cells (zeros n).toArray 192)) w.heap.size (List.replicate n 0):=by
 unfold Grp;rw [← zeros_gs];exact heap_alloc_new w _
theorem Row.cell {w w':World} {a:Option Addr} {m:List Nat} (h:Row w a (gs m)) (hb:Below w.heap.size w w') {k:Nat} (hk:k < m.length):∃ b off,a=some ⟨b,off,none⟩∧b < w.heap.size∧w'.cell? ⟨b,off+k,none⟩=some (.int .u64 ((m.getD k 0:Nat):Int)):=by
 obtain ⟨b,off,ha,hlt,hc⟩:=h.addr (gs_ne (by intro e;rw [e] at hk;simp at hk))
 exact ⟨b,off,ha,hlt,(hb.cell (p:=⟨b,off+k,none⟩) hlt).trans (hc k _ (gs_get m k hk))⟩
theorem times_any (x y:Nat) (a a':Option Addr) (cap cap':Nat) (w:World) (h1:(groupsOf x).length≤100000000000) (h2:(groupsOf y).length≤100000000000)
  (hr:Row w a (gs (groupsOf x))) (hr':Row w a' (gs (groupsOf y))) :
  Calls Tryz.prog 227 #[.slice a (groupsOf x).length cap,.slice a' (groupsOf y).length cap'] w fun e w' => ∃ b c,e = .returned (.slice (some ⟨b,0,none⟩) (groupsOf (x * y)).length c)∧(groupsOf (x * y)).length≤c∧c≤1000000000000∧w.heap.size≤b∧(∃ z,Grp w' b (groupsOf (x * y) ++ z)∧c=(groupsOf (x * y) ++ z).length)∧Below w.heap.size w w':=by
 obtain ⟨m,hm⟩:∃ m,m=groupsOf x:=⟨_,rfl⟩
 obtain ⟨n,hn⟩:∃ n,n=groupsOf y:=⟨_,rfl⟩
 have HM:=Lib.hid (show ∀ g∈m,g < 1000000000 by rw [hm];exact groupsOf_lt x)
 have HN:=Lib.hid (show ∀ g∈n,g < 1000000000 by rw [hn];exact groupsOf_lt y)
 have HV:Hid (x * y=gval m * gval n):=by show _=_;rw [hm,hn,gval_groupsOf,gval_groupsOf]
 rw [← hm] at h1 hr ⊢
 rw [← hn] at h2 hr' ⊢
 have HR:=Lib.hid (And.intro hr hr')
 clear hr hr' hm hn
 obtain ⟨p,hp⟩:∃ p,p=m.length:=⟨_,rfl⟩
 obtain ⟨q,hq⟩:∃ q,q=n.length:=⟨_,rfl⟩
 have HP:=Lib.hid hp
 have HQ:=Lib.hid hq
 rw [← hp] at h1 ⊢
 rw [← hq] at h2 ⊢
 clear hp hq
 have hmk:=make_mag (p+q) (p+q) (Nat.le_refl _) (by omega) w
 rw [show ((p+q:Nat):Int)=(p:Int)+q by omega] at hmk
 have H0:Hid (TimesAt m n 0 (List.replicate (p+q) 0)):=by have:=timesAt_zero m n;rw [← HP.out,← HQ.out] at this;exact this
 have HG0:=Lib.hid (Grp.made w (p+q))
 have HB0:=Lib.hid ((Below.refl w.heap.size w).alloc (Nat.le_refl _) (.cells (zeros (p+q)).toArray 192))
 go_enter Tryz.func227,Tryz.ntmps227
 go_wp2
 clear hmk
 go_loopw [19] (fun i wr => ∃ (k:Nat) (o:List Nat),k≤p∧i = .int .i64 (k:Int)∧Hid (TimesAt m n k o)∧Hid (Grp wr w.heap.size o)∧Hid (Below w.heap.size w wr)) (fun i _=>p - (intOf i).toNat)
 case atStart=>exact ⟨0,_,Nat.zero_le _,rfl,H0,HG0,HB0⟩
 case round =>
  clear H0 HG0 HB0
  obtain ⟨k,o,hk,rfl,hT,hG,HB⟩:=hrel
  by_cases hkx:k < p
  ·have hkm:k < m.length:=by have:=HP.out;omega
   obtain ⟨b,off,ha,hlt,hc⟩:=HR.out.1.cell HB.out hkm
   subst ha
   have hxlt:=getD_lt HM.out k
   have HX:=Lib.hid (rfl:m.getD k 0=m.getD k 0)
   obtain ⟨xg,hxg⟩:∃ xg,xg=m.getD k 0:=⟨_,rfl⟩
   rw [← hxg] at hc hxlt
   have HXG:=Lib.hid hxg
   clear hxg HX
   obtain ⟨wo,hwo⟩:∃ wo,wo=wr:=⟨_,rfl⟩
   subst hwo
   go_wp2
   clear hc
   go_loopw [8,26] (fun cy i wr => ∃ (j:Nat) (o':List Nat) (c:Nat),j≤q∧i = .int .i64 (j:Int)∧cy = .int .u64 (c:Int)∧c < 1000000000∧Hid (TimesIn m n k j o' c)∧Hid (Grp wr w.heap.size o')∧Hid (Below w.heap.size w wr)) (fun _ i _=>q - (intOf i).toNat)
   case atStart=>exact ⟨0,o,0,Nat.zero_le _,rfl,rfl,by decide,timesIn_zero hT.out,hG,HB⟩
   case round =>
    clear HB hG hT
    obtain ⟨j,o',c,hj,rfl,rfl,hc0,hT,hG,HB⟩:=hrel
    by_cases hjy:j < q
    ·have hjn:j < n.length:=by have:=HQ.out;omega
     obtain ⟨b',off',ha',hlt',hc'⟩:=HR.out.2.cell HB.out hjn
     subst ha'
     have hol:o'.length=p+q:=by rw [hT.out.1,HP.out,HQ.out]
     have hylt:=getD_lt HN.out j
     have hgo:=hG.out.cell (show k+j < o'.length by omega)
     have hglt:=getD_lt hT.out.2.1 (k+j)
     have hfr:=hG.out.frozen (k+j)
     have HT':=Lib.hid (timesIn_succ hT.out hkm hjn HM.out HN.out)
     rw [← HXG.out] at HT'
     have hmul:=times_bound hc0 hglt hxlt hylt
     generalize n.getD j 0=yg at *
     generalize o'.getD (k+j) 0=g at *
     obtain ⟨xy,hxy⟩:∃ xy,xy=xg * yg:=⟨_,rfl⟩
     have exy:(xg:Int) * (yg:Int)=(xy:Int):=by rw [hxy];simp
     rw [← hxy] at hmul HT'
     clear hxy hylt hol
     have hkq:(k:Int)+j < (p:Int)+q:=by omega
     have hne:b' ≠ w.heap.size:=by omega
     go_wp2
     go_roundw
     case rel=>exact ⟨j+1,_,(c+(g+xy)) / 1000000000,by omega,by go_num,by go_num,by omega,HT',hG.out.set (k+j) ((c+(g+xy)) % 1000000000) (by omega),HB.out.setCell (p:=⟨w.heap.size,k+j,none⟩) (Nat.le_refl _) _⟩
     case measure=>simp [intOf];omega
    ·obtain rfl:j=q:=by omega
     have hol:o'.length=p+j:=by rw [hT.out.1,HP.out,HQ.out]
     by_cases hq0:j=0
     ·subst hq0
      have HT2:Hid (TimesAt m n (k+1) o'):=by
       have e:n=[]:=List.eq_nil_of_length_eq_zero HQ.out.symm
       have h:=hT.out
       show TimesAt _ _ _ _
       rw [e] at h ⊢
       obtain ⟨t1,t2,t3,t4,t5⟩:=h
       have c0:gval o'+1000000000 ^ (k+0) * c=0:=by rw [t4];simp [gval]
       exact ⟨t1,t2,by simp [gval];omega,fun j hj=>t5 j (by simp at hj ⊢;omega)⟩
      go_wp2
      go_roundw
      case rel=>exact ⟨k+1,o',by omega,by go_num,HT2,hG,HB⟩
      case measure=>simp [intOf];omega
     ·have HT2:Hid (TimesAt m n (k+1) (o'.set (k+j) (o'.getD (k+j) 0+c))):=by
       have h:=timesAt_succ (m:=m) (n:=n) (by rw [← HQ.out];exact hT.out) hkm (by rw [← HQ.out];omega)
       rw [← HQ.out] at h;exact h
      have hgo:=hG.out.cell (show k+j < o'.length by omega)
      have hglt:=getD_lt hT.out.2.1 (k+j)
      have hfr:=hG.out.frozen (k+j)
      generalize o'.getD (k+j) 0=g at *
      have hkq:(k:Int)+j < (p:Int)+j:=by omega
      have hj0:(0:Int) < (j:Int):=by omega
      go_wp2
      go_roundw
      case rel=>exact ⟨k+1,_,by omega,by go_num,HT2,hG.out.set (k+j) (g+c) (by omega),HB.out.setCell (p:=⟨w.heap.size,k+j,none⟩) (Nat.le_refl _) _⟩
      case measure=>simp [intOf];omega
  ·obtain rfl:k=p:=by omega
   have hol:o.length=k+q:=by rw [hT.out.1,HP.out,HQ.out]
   have hcut:=cut_any o (some ⟨w.heap.size,0,none⟩) (k+q) wr (by omega) (by omega) hG.out.row
   have hend:=timesAt_end (by rw [← HP.out];exact hT.out)
   rw [← HV.out] at hend
   rw [hol,hend] at hcut
   have HCUT:=Lib.hid hcut
   have HE:=Lib.hid (And.intro hend hol)
   clear hcut hol hend
   go_wp2_with (go_at_call 183;refine HCUT.out.mono ?_;rintro e w2 ⟨rfl,rfl⟩)
   go_ret
   obtain ⟨z,hz⟩:=cutZ_split o
   have hl:=cutZ_length o
   rw [HE.out.1] at hz hl
   exact ⟨w.heap.size,k+q,rfl,by rw [← HE.out.2];exact hl,by omega,Nat.le_refl _,⟨z,by rw [← hz];exact hG.out,by rw [← hz];exact HE.out.2.symm⟩,HB.out⟩
theorem single_any (x d:Nat) (a:Option Addr) (cap:Nat) (w:World) (h1:(groupsOf x).length≤1000000000000) (hd:0 < d) (hd2:d < 1000000000)
  (hr:Row w a (gs (groupsOf x))) :
  Calls Tryz.prog 251 #[.slice a (groupsOf x).length cap,.int .u64 (d:Int)] w fun e w' => ∃ b c,e = .returned (.tuple #[.slice (some ⟨b,0,none⟩) (groupsOf (x / d)).length c,.int .u64 ((x % d:Nat):Int)])∧(groupsOf (x / d)).length≤c∧w.heap.size≤b∧Row w' (some ⟨b,0,none⟩) (gs (groupsOf (x / d)))∧Below w.heap.size w w':=by
 obtain ⟨m,hm⟩:∃ m,m=groupsOf x:=⟨_,rfl⟩
 have HM:=Lib.hid (show ∀ g∈m,g < 1000000000 by rw [hm];exact groupsOf_lt x)
 have HV:Hid (gval m=x):=by show _=_;rw [hm,gval_groupsOf]
 rw [← hm] at h1 hr ⊢
 have HR:=Lib.hid hr
 clear hr hm
 obtain ⟨p,hp⟩:∃ p,p=m.length:=⟨_,rfl⟩
 have HP:=Lib.hid hp
 rw [← hp] at h1 ⊢
 clear hp
 have hmk:=make_mag p p (Nat.le_refl _) (by omega) w
 have H0:Hid (SingleAt m d p (List.replicate p 0) 0):=by have:=singleAt_start m d hd;rw [← HP.out] at this;exact this
 have HG0:=Lib.hid (Grp.made w p)
 have HB0:=Lib.hid ((Below.refl w.heap.size w).alloc (Nat.le_refl _) (.cells (zeros p).toArray 192))
 go_enter Tryz.func251,Tryz.ntmps251
 go_wp2
 clear hmk
 go_loopw [7,8] (fun cr i wr => ∃ (k:Nat) (o:List Nat) (r:Nat),k≤p∧i = .int .i64 ((k:Int) - 1)∧cr = .int .u64 (r:Int)∧r < d∧Hid (SingleAt m d k o r)∧Hid (Grp wr w.heap.size o)∧Hid (Below w.heap.size w wr)) (fun _ i _=>(intOf i+1).toNat)
 case atStart=>exact ⟨p,_,0,Nat.le_refl _,rfl,rfl,hd,H0,HG0,HB0⟩
 case round =>
  clear H0 HG0 HB0
  obtain ⟨k,o,r,hk,rfl,rfl,hrd,hT,hG,HB⟩:=hrel
  rcases Nat.eq_zero_or_pos k with rfl | hpos
  ·have hol:o.length=p:=by rw [hT.out.1,HP.out]
   have hcut:=cut_any o (some ⟨w.heap.size,0,none⟩) p wr (by omega) (by omega) hG.out.row
   have hend:=singleAt_end hT.out
   rw [HV.out] at hend
   rw [hol,hend.1] at hcut
   have HCUT:=Lib.hid hcut
   have HE:=Lib.hid (And.intro hend hol)
   clear hcut hol hend
   go_wp2_with (go_at_call 183;refine HCUT.out.mono ?_;rintro e w2 ⟨rfl,rfl⟩)
   go_ret2
   obtain ⟨⟨e1,e2⟩,e3⟩:=HE.out
   subst e2
   refine ⟨w.heap.size,p,rfl,?_,Nat.le_refl _,?_,HB.out⟩
   ·rw [← e1,← e3];exact cutZ_length o
   ·rw [← e1];exact row_cut hG.out.row
  ·obtain ⟨j,rfl⟩:∃ j,k=j+1:=⟨k - 1,by omega⟩
   have hjm:j < m.length:=by have:=HP.out;omega
   obtain ⟨b,off,ha,hlt,hc⟩:=HR.out.cell HB.out hjm
   subst ha
   have hglt:=getD_lt HM.out j
   have hfr:=hG.out.frozen j
   have HT':=Lib.hid (singleAt_step hT.out hjm HM.out)
   have hol:o.length=p:=by rw [hT.out.1,HP.out]
   have hgo:=hG.out.cell (show j < o.length by omega)
   generalize m.getD j 0=g at *
   generalize o.getD j 0=g0 at *
   have hne:b ≠ w.heap.size:=by omega
   have hrb:r * 1000000000+g < 1000000000000000000:=by omega
   have hd0:(1:Int)≤(d:Int):=by omega
   clear hol
   go_wp2
   go_roundw
   case rel=>exact ⟨j,_,(r * 1000000000+g) % d,by omega,by go_num,by go_num,Nat.mod_lt _ hd,HT',hG.out.set j ((r * 1000000000+g) / d) (by simp),HB.out.setCell (p:=⟨w.heap.size,j,none⟩) (Nat.le_refl _) _⟩
   case measure=>simp [intOf]
end
section
open Go.RowKit Num
def GrpZ (w:World) (B:Nat) (o:List Nat) (z:List Value):Prop:=w.heap[B]? = some (.cells (gs o ++ z).toArray 192 (0,0))
theorem Grp.z {w:World} {B:Nat} {o:List Nat} (h:Grp w B o):GrpZ w B o []:=by unfold GrpZ;rw [List.append_nil];exact h
theorem GrpZ.lt {w:World} {B:Nat} {o:List Nat} {z:List Value} (h:GrpZ w B o z):B < w.heap.size:=(Array.getElem?_eq_some_iff.1 h).1
theorem GrpZ.cell {w:World} {B:Nat} {o:List Nat} {z:List Value} (h:GrpZ w B o z) {k:Nat} (hk:k < o.length):w.cell? ⟨B,k,none⟩=some (.int .u64 ((o.getD k 0:Nat):Int)):=by
 rw [cell_at h]
 have:=gs_get o k hk
 rw [List.getElem?_toArray,List.getElem?_append_left (by rw [gs_length];exact hk)]
 exact this
theorem GrpZ.frozen {w:World} {B:Nat} {o:List Nat} {z:List Value} (h:GrpZ w B o z) (k:Nat):w.frozen? ⟨B,k,none⟩=false:=frozen_at h k
theorem GrpZ.set {w:World} {B:Nat} {o:List Nat} {z:List Value} (h:GrpZ w B o z) {k:Nat} (hk:k < o.length) (n:Nat) {v:Int} (hv:v=n):GrpZ (w.setCell ⟨B,k,none⟩ (.int .u64 v)) B (o.set k n) z:=by
 subst hv
 unfold GrpZ
 rw [heap_setCell_same w B k _ _ _ h,gs_set]
 congr 2
 rw [List.setIfInBounds_toArray,List.set_append_left _ _ (by rw [gs_length];exact hk)]
theorem GrpZ.below {w w':World} {B:Nat} {o:List Nat} {z:List Value} (h:GrpZ w B o z) (hb:Below w.heap.size w w'):GrpZ w' B o z:=(hb.block B h.lt).trans h
theorem GrpZ.row {w:World} {B:Nat} {o:List Nat} {z:List Value} (h:GrpZ w B o z):Row w (some ⟨B,0,none⟩) (gs o):=row_of_heap h
theorem GrpZ.other {w:World} {B:Nat} {o:List Nat} {z:List Value} (h:GrpZ w B o z) {p:Addr} (hne:B ≠ p.block) (v:Value):GrpZ (w.setCell p v) B o z:=(Below.heap_setCell w p v B hne).trans h
theorem divide_lt (x y:Nat) (a a':Option Addr) (cap cap':Nat) (w:World) (hxy:x < y) (h1:(groupsOf x).length≤9223372036854775807) (h2:(groupsOf y).length≤9223372036854775807)
  (hr:Row w a (gs (groupsOf x))) (hr':Row w a' (gs (groupsOf y))) :
  Calls Tryz.prog 229 #[.slice a (groupsOf x).length cap,.slice a' (groupsOf y).length cap'] w fun e w'=>e = .returned (.tuple #[.slice none 0 0,.slice a (groupsOf x).length cap])∧Below w.heap.size w w':=by
 have HC:=Lib.hid (compare_any (groupsOf x) (groupsOf y) a a' cap cap' w h1 h2 (groupsOf_lt x) (groupsOf_lt y) hr hr')
 have hv:=(cmpV_groups x y).1 hxy
 generalize cmpV (groupsOf x) (groupsOf y)=cv at *
 clear hr hr'
 generalize (groupsOf x).length=p at *
 generalize (groupsOf y).length=q at *
 go_enter Tryz.func229,Tryz.ntmps229
 go_wp2_with fail
 refine HC.out.mono ?_
 rintro e w1 ⟨rfl,n,rfl⟩
 go_wp2
 go_ret2
 exact ⟨rfl,below_drewN (Below.refl _ _) n⟩
theorem groupsOf_small (d:Nat) (h0:0 < d) (h:d < 1000000000):groupsOf d=[d]:=by
 rw [groupsOf_pos (by omega),Nat.mod_eq_of_lt h,Nat.div_eq_of_lt h,groupsOf_zero]
theorem divide_one (x d:Nat) (a a':Option Addr) (cap cap':Nat) (w:World) (hd0:0 < d) (hd:d < 1000000000) (hxy:d≤x) (h1:(groupsOf x).length≤1000000000000)
  (hr:Row w a (gs (groupsOf x))) (hr':Row w a' (gs [d])) :
  Calls Tryz.prog 229 #[.slice a (groupsOf x).length cap,.slice a' 1 cap'] w fun e w' => ∃ b b' c c',e = .returned (.tuple #[.slice b (groupsOf (x / d)).length c,.slice b' (groupsOf (x % d)).length c'])∧(groupsOf (x / d)).length≤c∧(groupsOf (x % d)).length≤c'∧Fresh w.heap.size b∧Fresh w.heap.size b'∧Row w' b (gs (groupsOf (x / d)))∧Row w' b' (gs (groupsOf (x % d)))∧Below w.heap.size w w':=by
 have hg:=groupsOf_small d hd0 hd
 have hcmp:=compare_any (groupsOf x) (groupsOf d) a a' cap cap' w (by omega) (by rw [hg];simp) (groupsOf_lt x) (groupsOf_lt d) hr (by rw [hg];exact hr')
 rw [hg] at hcmp
 have HC:=Lib.hid hcmp
 have hv:¬ cmpV (groupsOf x) [d] < 0:=by rw [← hg,cmpV_lt_iff];omega
 obtain ⟨b,off,ha,hlt,hc⟩:=hr'.addr (by simp [gs])
 have hc0:=hc 0 (.int .u64 (d:Int)) (by simp [gs])
 rw [Nat.add_zero] at hc0
 subst ha
 clear hr' hc hcmp
 have HS:=Lib.hid (fun W (hb:Below w.heap.size w W)=>single_any x d a cap W h1 hd0 hd (hr.below hb))
 have HF:Hid (cutZ [x % d]=groupsOf (x % d)):=by
  show _=_
  rw [cutZ_eq (by simp;have:=Nat.mod_lt x hd0;omega)];simp [gval]
 have hcut:=fun B W (hR:Row W (some ⟨B,0,none⟩) (gs [x % d]))=>cut_any [x % d] (some ⟨B,0,none⟩) 1 W (by simp) (by simp) hR
 simp only [HF.out,List.length_singleton] at hcut
 have HCUT:=Lib.hid hcut
 clear hcut hr
 generalize cmpV (groupsOf x) [d]=cv at *
 obtain ⟨rm,hrm⟩:∃ rm,rm=x % d:=⟨_,rfl⟩
 rw [← hrm] at HF HCUT HS ⊢
 have hqq:∃ qq,qq=x / d:=⟨_,rfl⟩
 obtain ⟨qq,hqq⟩:=hqq
 rw [← hqq] at HS ⊢
 clear hqq hrm
 generalize (groupsOf x).length=p at *
 go_enter Tryz.func229,Tryz.ntmps229
 go_wp2_with fail
 refine HC.out.mono ?_
 rintro e w1 ⟨rfl,n,rfl⟩
 have HB:=Lib.hid (below_drewN (Below.refl w.heap.size w) n)
 have hc1:(w.drewN n).cell? ⟨b,off,none⟩=some (.int .u64 (d:Int)):=hc0
 generalize w.drewN n=W at *
 clear hc0
 go_wp2_with fail
 refine (HS.out W HB.out).mono ?_
 rintro e w2 ⟨b2,c2,rfl,hle2,hb2,hr2,hbb⟩
 have HR2:=Lib.hid hr2
 have HB2:=Lib.hid (HB.out.trans (hbb.mono HB.out.size))
 have HS2:=Lib.hid hbb.size
 clear hr2 hbb hc1
 go_wp2_with fail
 refine (HCUT.out _ _ ?_).mono ?_
 ·exact row_of_heap (q:=[]) (heap_alloc_new w2 _)
 rintro e w3 ⟨rfl,rfl⟩
 go_wp2
 go_ret2
 refine ⟨some ⟨b2,0,none⟩,some ⟨w2.heap.size,0,none⟩,c2,1,rfl,hle2,?_,Fresh.of (by have:=HB.out.size;omega),Fresh.of HB2.out.size,HR2.out.below ((Below.refl _ _).alloc (Nat.le_refl _) _),?_,HB2.out.alloc HB2.out.size _⟩
 ·rw [← HF.out];exact cutZ_length [rm]
 ·rw [← HF.out];exact row_cut (row_of_heap (q:=[]) (heap_alloc_new w2 _))
end
end Go.Proofs.YtbcebibkpfklnaaGreatDoor
