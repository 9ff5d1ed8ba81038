/- Frac2 Frac3 -/
import Derived.Test.YtbcebibkpfklnaaGreatDoorJGcd
import Derived.Test.YtbcebibkpfklnaaGreatDoorJText
import Derived.Laws.EntriesVeiled
set_option maxHeartbeats 16000000
set_option maxRecDepth 100000
namespace Go.Proofs.YtbcebibkpfklnaaGreatDoor
section
open Go.RowKit Num
def fok (n d:List UInt8):Bool:=n == canon (rnum (val n) (den d)) && d == fden (rden (val n) (den d))
theorem denS_len {d:List UInt8} {K:Nat} (hK:1≤K) (h:d.length≤K):(denS d).length≤K:=by unfold denS;split;simpa using hK;exact h
theorem mul_len {l m:List UInt8} {K L:Nat} (hl:l.length≤K) (hm:m.length≤L) (hK:1≤K):(canon (val l * val m)).length≤K+L+1:=by
 refine canon_len (by omega) ?_
 rw [Int.natAbs_mul,Nat.pow_add]
 have h1:=val_lt hl
 have h2:=val_lt hm
 rcases Nat.eq_zero_or_pos (val l).natAbs with h | h
 ·rw [h,Nat.zero_mul];exact Nat.mul_pos (by omega) (by omega)
 ·exact Nat.lt_of_lt_of_le (Nat.mul_lt_mul_of_pos_left h2 h) (Nat.mul_le_mul_right _ (by omega))
theorem op2_any (a b c d:List UInt8) (bm:Nat) (T:TypeId) (w:World) (hE:Env w) (ha:a.length≤60) (hb:b.length≤60) (hc:c.length≤60) (hd:d.length≤60) (hB:Box w bm #[.func (.func 195) #[] #[]] T) :
  Calls Tryz.prog 197 #[.string ⟨a.toArray⟩,.string ⟨b.toArray⟩,.string ⟨c.toArray⟩,.string ⟨d.toArray⟩,.pointer (some ⟨bm,0,none⟩)] w fun e w'=>e = .returned (.tuple #[.string ⟨(canon (val a * val d - val c * val b)).toArray⟩,.string ⟨(canon (val b * val d)).toArray⟩])∧Below w.heap.size w w':=by
 have HE:=Lib.hid hE
 have m1:=mul_len ha hd (by decide)
 have m2:=mul_len hc hb (by decide)
 have H1:=Lib.hid (fun W hE=>Mul_any a d W hE (by omega) (by omega))
 have H2:=Lib.hid (fun W hE=>Mul_any c b W hE (by omega) (by omega))
 have H3:=Lib.hid (fun W hE=>Sub_any (canon (val a * val d)) (canon (val c * val b)) W hE (by omega) (by omega))
 have H4:=Lib.hid (fun W hE=>Mul_any b d W hE (by omega) (by omega))
 rw [val_canon,val_canon] at H3
 generalize canon (val a * val d - val c * val b)=r1 at *
 generalize canon (val a * val d)=r2 at *
 generalize canon (val c * val b)=r3 at *
 generalize canon (val b * val d)=r4 at *
 clear hE m1 m2
 have k0:=hB.cell 0
 go_enter Tryz.func197,Tryz.ntmps197
 go_wp2_with fail
 have HBc:Below w.heap.size w w.drew:=below_drewN (Below.refl _ _) 1
 have KB:Box w.drew bm #[.func (.func 195) #[] #[]] T:=hB
 clear hB k0
 refine wp_region_held_drew (S:=fun W=>W.cell? ⟨bm,0,none⟩=some (.func (.func 195) #[] #[])) (by kernel_rfl) ?hS1 (fun hHeld => ?hR1)
 case hS1=>exact KB.cell 0
 refine tk 0 (some 11) (?v2) rfl rfl ?hy2 ?hR2
 case hy2=>(intro w hSw;(try dsimp only at hSw);go_simp;try rfl)
 simp only [pS]
 refine tk 1 (some 12) (?v3) rfl rfl ?hy3 ?hR3
 case hy3=>(intro w hSw;(try dsimp only at hSw);go_simp;try rfl)
 simp only [pS]
 refine tk 2 (some 13) (?v4) rfl rfl ?hy4 ?hR4
 case hy4=>(intro w hSw;(try dsimp only at hSw);go_simp;try rfl)
 simp only [pS]
 refine tk 4 (some 15) (?v5) rfl rfl ?hy5 ?hR5
 case hy5=>(intro w hSw;(try dsimp only at hSw);go_simp;try rfl)
 simp only [pS]
 refine tk 5 (some 16) (?v6) rfl rfl ?hy6 ?hR6
 case hy6=>(intro w hSw;(try dsimp only at hSw);go_simp;try rfl)
 simp only [pS]
 refine tk 6 (some 17) (?v7) rfl rfl ?hy7 ?hR7
 case hy7=>(intro w hSw;(try dsimp only at hSw);go_simp;try rfl)
 simp only [pS]
 refine tk 9 (some 20) (?v8) rfl rfl ?hy8 ?hR8
 case hy8=>(intro w hSw;(try dsimp only at hSw);go_simp;try rfl)
 simp only [pS]
 refine tk 10 (some 21) (?v9) rfl rfl ?hy9 ?hR9
 case hy9=>(intro w hSw;(try dsimp only at hSw);go_simp;try rfl)
 simp only [pS]
 refine tk 11 (some 22) (?v10) rfl rfl ?hy10 ?hR10
 case hy10=>(intro w hSw;(try dsimp only at hSw);go_simp;try rfl)
 simp only [pS]
 refine wpAnyH_ready (rs:=[3]) (by kernel_rfl) (by simp) ?_
 refine AllReadyH.cons (o:=_) rfl (fun K hK => ?hC11) AllReadyH.nil
 rw [if_pos (by rfl)]
 go_simp
 go_at_call 195
 refine (H1.out _ (HE.out.below HBc)).mono ?_
 rintro e wn ⟨rfl,hbn⟩
 replace HBc:=below_up HBc hbn
 replace KB:=KB.below hbn
 clear hbn
 go_wp2_with fail
 refine hK.out _ _ ?hS11 (fun hHeld => ?hR11)
 case hS11=>exact KB.cell 0
 try simp only [pS]
 refine wpAnyH_ready (rs:=[7]) (by kernel_rfl) (by simp) ?_
 refine AllReadyH.cons (o:=_) rfl (fun K hK => ?hC12) AllReadyH.nil
 rw [if_pos (by rfl)]
 go_simp
 go_at_call 195
 refine (H2.out _ (HE.out.below HBc)).mono ?_
 rintro e wn ⟨rfl,hbn⟩
 replace HBc:=below_up HBc hbn
 replace KB:=KB.below hbn
 clear hbn
 go_wp2_with fail
 refine hK.out _ _ ?hS12 (fun hHeld => ?hR12)
 case hS12=>exact KB.cell 0
 try simp only [pS]
 refine wpAnyH_ready (rs:=[8]) (by kernel_rfl) (by simp) ?_
 refine AllReadyH.cons (o:=_) rfl (fun K hK => ?hC13) AllReadyH.nil
 rw [if_pos (by rfl)]
 go_simp
 go_at_call 198
 refine (H3.out _ (HE.out.below HBc)).mono ?_
 rintro e wn ⟨rfl,hbn⟩
 replace HBc:=below_up HBc hbn
 replace KB:=KB.below hbn
 clear hbn
 go_wp2_with fail
 refine hK.out _ _ ?hS13 (fun hHeld => ?hR13)
 case hS13=>exact KB.cell 0
 try simp only [pS]
 refine wpAnyH_ready (rs:=[12]) (by kernel_rfl) (by simp) ?_
 refine AllReadyH.cons (o:=_) rfl (fun K hK => ?hC14) AllReadyH.nil
 rw [if_pos (by rfl)]
 go_simp
 go_at_call 195
 refine (H4.out _ (HE.out.below HBc)).mono ?_
 rintro e wn ⟨rfl,hbn⟩
 replace HBc:=below_up HBc hbn
 replace KB:=KB.below hbn
 clear hbn
 go_wp2_with fail
 refine hK.out _ _ ?hS14 (fun hHeld => ?hR14)
 case hS14=>exact KB.cell 0
 try simp only [pS]
 refine tk 13 (some 9) (?v15) rfl rfl ?hy15 ?hR15
 case hy15=>(intro w hSw;(try dsimp only at hSw);go_simp;try rfl)
 simp only [pS]
 refine tk 14 (some 10) (?v16) rfl rfl ?hy16 ?hR16
 case hy16=>(intro w hSw;(try dsimp only at hSw);go_simp;try rfl)
 simp only [pS]
 refine wpAnyH_done (by kernel_rfl) ?_ _
 go_wp2
 go_ret2
 exact ⟨rfl,HBc⟩
theorem fracCheck_any (n d:List UInt8) (w:World) (hE:Env w) (hn:n.length≤200) (hd:d.length≤200) :
  Calls Tryz.prog 113 #[.agg #[.string ⟨n.toArray⟩,.string ⟨d.toArray⟩]] w fun e w'=>e = .returned (.int .i64 (if fok n d=true then 0 else 1))∧Below w.heap.size w w':=by
 have HE:=Lib.hid hE
 have HP:=Lib.hid (fun W=>parts_any n d W (by omega))
 have HM:=Lib.hid (fun W hE=>made_any n (denS d) W hE hn (denS_len (by decide) hd) (by rw [val_denS];exact den_ne d))
 rw [val_denS] at HM
 unfold fok
 generalize canon (rnum (val n) (den d))=rn at *
 generalize fden (rden (val n) (den d))=rd at *
 generalize denS d=ds at *
 clear hE
 have HB0:=Lib.hid (Box.new w #[.string ⟨n.toArray⟩,.string ⟨d.toArray⟩] 26 1)
 rcases (show (n=rn∧d=rd)∨(n=rn∧¬ d=rd)∨¬ n=rn by by_cases h:n=rn <;> by_cases h':d=rd <;> simp [h,h']) with ⟨h1,h2⟩ | ⟨h1,h2⟩ | h1
 ·subst h1 h2;rw [if_pos (by simp)]
  go_enter Tryz.func113,Tryz.ntmps113
  go_wp2_with fail
  have HBc:=below_drewN (below_alloc w (.cells #[.string ⟨n.toArray⟩,.string ⟨d.toArray⟩] 26)) 1
  have KB:=HB0.out
  refine wp_region_held_drew (S:=fun W=>W.cell? ⟨w.heap.size,0,none⟩=some (.string ⟨n.toArray⟩)∧W.cell? ⟨w.heap.size,1,none⟩=some (.string ⟨d.toArray⟩)) (by kernel_rfl) ?hS17 (fun hHeld => ?hR17)
  case hS17=>exact ⟨KB.cell 0,KB.cell 1⟩
  refine tk 0 (some 3) (?v18) rfl rfl ?hy18 ?hR18
  case hy18=>(intro w hSw;(try dsimp only at hSw);go_simp;try rfl)
  simp only [pS]
  refine tk 1 (some 4) (?v19) rfl rfl ?hy19 ?hR19
  case hy19=>(intro w hSw;(try dsimp only at hSw);go_simp;try rfl)
  simp only [pS]
  refine wpAnyH_ready (rs:=[2]) (by kernel_rfl) (by simp) ?_
  refine AllReadyH.cons (o:=_) rfl (fun K hK => ?hC20) AllReadyH.nil
  rw [if_pos (by rfl)]
  go_simp
  go_at_call 136
  refine (HP.out _).mono ?_
  rintro e wn ⟨rfl,hbn⟩
  replace HBc:=below_up HBc hbn
  replace KB:=KB.below hbn
  clear hbn
  go_wp2_with fail
  refine hK.out _ _ ?hS20 (fun hHeld => ?hR20)
  case hS20=>exact ⟨KB.cell 0,KB.cell 1⟩
  try simp only [pS]
  refine tk 3 (some 6) (?v21) rfl rfl ?hy21 ?hR21
  case hy21=>(intro w hSw;(try dsimp only at hSw);go_simp;try rfl)
  simp only [pS]
  refine tk 4 (some 7) (?v22) rfl rfl ?hy22 ?hR22
  case hy22=>(intro w hSw;(try dsimp only at hSw);go_simp;try rfl)
  simp only [pS]
  refine wpAnyH_ready (rs:=[5]) (by kernel_rfl) (by simp) ?_
  refine AllReadyH.cons (o:=_) rfl (fun K hK => ?hC23) AllReadyH.nil
  rw [if_pos (by rfl)]
  go_simp
  go_at_call 138
  refine (HM.out _ (HE.out.below HBc)).mono ?_
  rintro e wn ⟨rfl,hbn⟩
  replace HBc:=below_up HBc hbn
  replace KB:=KB.below hbn
  clear hbn
  go_wp2_with fail
  refine hK.out _ _ ?hS23 (fun hHeld => ?hR23)
  case hS23=>exact ⟨KB.cell 0,KB.cell 1⟩
  try simp only [pS]
  refine tk 6 (some 9) (?v24) rfl rfl ?hy24 ?hR24
  case hy24=>(intro w hSw;(try dsimp only at hSw);go_simp;try rfl)
  simp only [pS]
  refine wpAnyH_done (by kernel_rfl) ?_ _
  go_wp2
  go_ret
  exact ⟨rfl,HBc⟩
 ·subst h1;rw [if_neg (by simp [h2])]
  go_enter Tryz.func113,Tryz.ntmps113
  go_wp2_with fail
  have HBc:=below_drewN (below_alloc w (.cells #[.string ⟨n.toArray⟩,.string ⟨d.toArray⟩] 26)) 1
  have KB:=HB0.out
  refine wp_region_held_drew (S:=fun W=>W.cell? ⟨w.heap.size,0,none⟩=some (.string ⟨n.toArray⟩)∧W.cell? ⟨w.heap.size,1,none⟩=some (.string ⟨d.toArray⟩)) (by kernel_rfl) ?hS25 (fun hHeld => ?hR25)
  case hS25=>exact ⟨KB.cell 0,KB.cell 1⟩
  refine tk 0 (some 3) (?v26) rfl rfl ?hy26 ?hR26
  case hy26=>(intro w hSw;(try dsimp only at hSw);go_simp;try rfl)
  simp only [pS]
  refine tk 1 (some 4) (?v27) rfl rfl ?hy27 ?hR27
  case hy27=>(intro w hSw;(try dsimp only at hSw);go_simp;try rfl)
  simp only [pS]
  refine wpAnyH_ready (rs:=[2]) (by kernel_rfl) (by simp) ?_
  refine AllReadyH.cons (o:=_) rfl (fun K hK => ?hC28) AllReadyH.nil
  rw [if_pos (by rfl)]
  go_simp
  go_at_call 136
  refine (HP.out _).mono ?_
  rintro e wn ⟨rfl,hbn⟩
  replace HBc:=below_up HBc hbn
  replace KB:=KB.below hbn
  clear hbn
  go_wp2_with fail
  refine hK.out _ _ ?hS28 (fun hHeld => ?hR28)
  case hS28=>exact ⟨KB.cell 0,KB.cell 1⟩
  try simp only [pS]
  refine tk 3 (some 6) (?v29) rfl rfl ?hy29 ?hR29
  case hy29=>(intro w hSw;(try dsimp only at hSw);go_simp;try rfl)
  simp only [pS]
  refine tk 4 (some 7) (?v30) rfl rfl ?hy30 ?hR30
  case hy30=>(intro w hSw;(try dsimp only at hSw);go_simp;try rfl)
  simp only [pS]
  refine wpAnyH_ready (rs:=[5]) (by kernel_rfl) (by simp) ?_
  refine AllReadyH.cons (o:=_) rfl (fun K hK => ?hC31) AllReadyH.nil
  rw [if_pos (by rfl)]
  go_simp
  go_at_call 138
  refine (HM.out _ (HE.out.below HBc)).mono ?_
  rintro e wn ⟨rfl,hbn⟩
  replace HBc:=below_up HBc hbn
  replace KB:=KB.below hbn
  clear hbn
  go_wp2_with fail
  refine hK.out _ _ ?hS31 (fun hHeld => ?hR31)
  case hS31=>exact ⟨KB.cell 0,KB.cell 1⟩
  try simp only [pS]
  refine tk 6 (some 9) (?v32) rfl rfl ?hy32 ?hR32
  case hy32=>(intro w hSw;(try dsimp only at hSw);go_simp;try rfl)
  simp only [pS]
  refine wpAnyH_done (by kernel_rfl) ?_ _
  go_wp2
  go_ret
  exact ⟨rfl,HBc⟩
 ·rw [if_neg (by simp [h1])]
  go_enter Tryz.func113,Tryz.ntmps113
  go_wp2_with fail
  have HBc:=below_drewN (below_alloc w (.cells #[.string ⟨n.toArray⟩,.string ⟨d.toArray⟩] 26)) 1
  have KB:=HB0.out
  refine wp_region_held_drew (S:=fun W=>W.cell? ⟨w.heap.size,0,none⟩=some (.string ⟨n.toArray⟩)∧W.cell? ⟨w.heap.size,1,none⟩=some (.string ⟨d.toArray⟩)) (by kernel_rfl) ?hS33 (fun hHeld => ?hR33)
  case hS33=>exact ⟨KB.cell 0,KB.cell 1⟩
  refine tk 0 (some 3) (?v34) rfl rfl ?hy34 ?hR34
  case hy34=>(intro w hSw;(try dsimp only at hSw);go_simp;try rfl)
  simp only [pS]
  refine tk 1 (some 4) (?v35) rfl rfl ?hy35 ?hR35
  case hy35=>(intro w hSw;(try dsimp only at hSw);go_simp;try rfl)
  simp only [pS]
  refine wpAnyH_ready (rs:=[2]) (by kernel_rfl) (by simp) ?_
  refine AllReadyH.cons (o:=_) rfl (fun K hK => ?hC36) AllReadyH.nil
  rw [if_pos (by rfl)]
  go_simp
  go_at_call 136
  refine (HP.out _).mono ?_
  rintro e wn ⟨rfl,hbn⟩
  replace HBc:=below_up HBc hbn
  replace KB:=KB.below hbn
  clear hbn
  go_wp2_with fail
  refine hK.out _ _ ?hS36 (fun hHeld => ?hR36)
  case hS36=>exact ⟨KB.cell 0,KB.cell 1⟩
  try simp only [pS]
  refine tk 3 (some 6) (?v37) rfl rfl ?hy37 ?hR37
  case hy37=>(intro w hSw;(try dsimp only at hSw);go_simp;try rfl)
  simp only [pS]
  refine tk 4 (some 7) (?v38) rfl rfl ?hy38 ?hR38
  case hy38=>(intro w hSw;(try dsimp only at hSw);go_simp;try rfl)
  simp only [pS]
  refine wpAnyH_ready (rs:=[5]) (by kernel_rfl) (by simp) ?_
  refine AllReadyH.cons (o:=_) rfl (fun K hK => ?hC39) AllReadyH.nil
  rw [if_pos (by rfl)]
  go_simp
  go_at_call 138
  refine (HM.out _ (HE.out.below HBc)).mono ?_
  rintro e wn ⟨rfl,hbn⟩
  replace HBc:=below_up HBc hbn
  replace KB:=KB.below hbn
  clear hbn
  go_wp2_with fail
  refine hK.out _ _ ?hS39 (fun hHeld => ?hR39)
  case hS39=>exact ⟨KB.cell 0,KB.cell 1⟩
  try simp only [pS]
  refine tk 6 (some 9) (?v40) rfl rfl ?hy40 ?hR40
  case hy40=>(intro w hSw;(try dsimp only at hSw);go_simp;try rfl)
  simp only [pS]
  refine wpAnyH_done (by kernel_rfl) ?_ _
  go_wp2
  go_ret
  exact ⟨rfl,HBc⟩
end
section
open Go.RowKit Num
theorem operations_any (w:World) :
  Calls Tryz.prog 168 #[] w fun e w' => ∃ f0 f2 f3 bm,e = .returned (.agg #[f0,.func (.func 197) #[] #[.pointer (some ⟨bm,0,none⟩)],f2,f3])∧(∃ T,Box w' bm #[.func (.func 195) #[] #[]] T)∧Below w.heap.size w w':=by
 go_enter Tryz.func168,Tryz.ntmps168
 go_wp2
 refine bodyPost_ret (v:=.agg #[.func (.func 196) #[] #[.pointer (some ⟨w.heap.size+1,0,none⟩)],.func (.func 197) #[] #[.pointer (some ⟨w.heap.size+1,0,none⟩)],.func (.func 199) #[] #[.pointer (some ⟨w.heap.size+1,0,none⟩)],.func (.func 200) #[] #[.pointer (some ⟨w.heap.size+1,0,none⟩)]]) (by simp [results,Tryz.results168,go_sem]) rfl ⟨_,_,_,w.heap.size+1,rfl,?_,?_⟩
 ·refine ⟨134,?_⟩
  have h:=Box.new0 (w.alloc (.cells #[.func (.func 196) #[] #[.pointer (some ⟨w.heap.size+1,0,none⟩)],.func (.func 197) #[] #[.pointer (some ⟨w.heap.size+1,0,none⟩)],.func (.func 199) #[] #[.pointer (some ⟨w.heap.size+1,0,none⟩)],.func (.func 200) #[] #[.pointer (some ⟨w.heap.size+1,0,none⟩)]] 183)) #[.func (.func 195) #[] #[]] 134
  rw [World.size_alloc] at h
  exact h
 ·exact ((Below.refl _ _).alloc (Nat.le_refl _) _).alloc (by simp) _
def subN (n d n' d':List UInt8):Int:=val n * den d' - val n' * den d
def subD (d d':List UInt8):Int:=den d * den d'
theorem subD_ne (d d':List UInt8):subD d d' ≠ 0:=Int.mul_ne_zero (den_ne d) (den_ne d')
theorem apply_any (n d n' d':List UInt8) (bm:Nat) (T:TypeId) (w:World) (hE:Env w) (hn:n.length≤60) (hd:d.length≤60) (hn':n'.length≤60) (hd':d'.length≤60) (hB:Box w bm #[.func (.func 195) #[] #[]] T) :
  Calls Tryz.prog 167 #[.func (.func 197) #[] #[.pointer (some ⟨bm,0,none⟩)],.agg #[.string ⟨n.toArray⟩,.string ⟨d.toArray⟩],.agg #[.string ⟨n'.toArray⟩,.string ⟨d'.toArray⟩]] w fun e w'=>e = .returned (.agg #[.string ⟨(canon (rnum (subN n d n' d') (subD d d'))).toArray⟩,.string ⟨(fden (rden (subN n d n' d') (subD d d'))).toArray⟩])∧Below w.heap.size w w':=by
 have HE:=Lib.hid hE
 have HP1:=Lib.hid (fun W=>parts_any n d W (by omega))
 have HP2:=Lib.hid (fun W=>parts_any n' d' W (by omega))
 have dl:=denS_len (d:=d) (K:=60) (by decide) hd
 have dl':=denS_len (d:=d') (K:=60) (by decide) hd'
 have HO:=Lib.hid (fun W hE hB=>op2_any n (denS d) n' (denS d') bm T W hE hn dl hn' dl' hB)
 have m1:=mul_len (l:=n) (m:=denS d') hn dl' (by decide)
 have m2:=mul_len (l:=n') (m:=denS d) hn' dl (by decide)
 have m3:=mul_len (l:=denS d) (m:=denS d') dl dl' (by decide)
 have m4:=sub_len (l:=canon (val n * val (denS d'))) (m:=canon (val n' * val (denS d))) (K:=121) (by omega) (by omega)
 rw [val_canon,val_canon] at m4
 have HM:=Lib.hid (fun W hE=>made_any (canon (val n * val (denS d') - val n' * val (denS d))) (canon (val (denS d) * val (denS d'))) W hE (by omega) (by omega) (by rw [val_canon,val_denS,val_denS];exact subD_ne d d'))
 rw [val_canon,val_canon] at HM
 rw [val_denS,val_denS] at HO HM
 rw [show val n * den d' - val n' * den d=subN n d n' d' from rfl,show den d * den d'=subD d d' from rfl] at HO HM
 generalize canon (rnum (subN n d n' d') (subD d d'))=rn at *
 generalize fden (rden (subN n d n' d') (subD d d'))=rd at *
 generalize canon (subN n d n' d')=sn at *
 generalize canon (subD d d')=sd at *
 generalize denS d=ds at *
 generalize denS d'=ds' at *
 have HBX:=Lib.hid hB
 clear hE m1 m2 m3 m4 dl dl' hB
 go_enter Tryz.func167,Tryz.ntmps167
 go_wp2_with fail
 refine (HP1.out _).mono ?_
 rintro e w1 ⟨rfl,hb1⟩
 obtain ⟨q1,q2,q3⟩:=boxes3 (n:=0) hb1
 have k0:=cell_at q2 0
 have k1:=cell_at q2 1
 have HB1:=Lib.hid (below_up ((((Below.refl w.heap.size w).alloc (Nat.le_refl _) _).alloc (by simp) _).alloc (by simp;omega) _) hb1)
 have KR:Box w1 (w.heap.size+1+1) #[.string ⟨#[]⟩,.string ⟨#[]⟩] _:=⟨(Array.getElem?_eq_some_iff.1 q3).1,q3⟩
 have KR:=Lib.hid KR
 clear q1 q2 q3 hb1
 go_wp2_with fail
 refine (HP2.out _).mono ?_
 rintro e w2 ⟨rfl,hb2⟩
 have HB2:=Lib.hid (below_up HB1.out hb2)
 have KR2:=Lib.hid (KR.out.below hb2)
 clear hb2 KR k0 k1 HB1
 go_wp2_with fail
 refine (HO.out _ (HE.out.below HB2.out) (HBX.out.below HB2.out)).mono ?_
 rintro e w3 ⟨rfl,hb3⟩
 have HB3:=Lib.hid (below_up HB2.out hb3)
 have KR3:=Lib.hid (KR2.out.below hb3)
 clear hb3 KR2 HB2
 go_wp2_with fail
 refine (HM.out _ (HE.out.below HB3.out)).mono ?_
 rintro e w4 ⟨rfl,hb4⟩
 have HB4:=Lib.hid (below_up HB3.out hb4)
 have KR4:=KR3.out.below hb4
 have k0:=KR4.cell 0
 have k1:=KR4.cell 1
 have f0:=frozen_at KR4.2 0
 have f1:=frozen_at KR4.2 1
 clear hb4 KR3 HB3 KR4
 go_wp2
 exact bodyPost_ret (v:=.agg #[.string ⟨rn.toArray⟩,.string ⟨rd.toArray⟩]) (by simp [results,Tryz.results167,go_sem,k0,k1]) rfl ⟨rfl,(HB4.out.setCell (p:=⟨w.heap.size+1+1,0,none⟩) (by show _≤w.heap.size+1+1;omega) _).setCell (p:=⟨w.heap.size+1+1,1,none⟩) (by show _≤w.heap.size+1+1;omega) _⟩
theorem fracSub_any (n d n' d':List UInt8) (w:World) (hE:Env w) (hn:n.length≤60) (hd:d.length≤60) (hn':n'.length≤60) (hd':d'.length≤60) :
  Calls Tryz.prog 137 #[.agg #[.string ⟨n.toArray⟩,.string ⟨d.toArray⟩],.agg #[.string ⟨n'.toArray⟩,.string ⟨d'.toArray⟩]] w fun e w'=>e = .returned (.agg #[.string ⟨(canon (rnum (subN n d n' d') (subD d d'))).toArray⟩,.string ⟨(fden (rden (subN n d n' d') (subD d d'))).toArray⟩])∧Below w.heap.size w w':=by
 have HE:=Lib.hid hE
 have HA:=Lib.hid (fun bm T W hE hB=>apply_any n d n' d' bm T W hE hn hd hn' hd' hB)
 generalize canon (rnum (subN n d n' d') (subD d d'))=rn at *
 generalize fden (rden (subN n d n' d') (subD d d'))=rd at *
 clear hE hn hd hn' hd'
 have hix:∀ (f0 f1 f2 f3:Value) (W:World),(Instr.index 183 (.agg #[f0,f1,f2,f3]) (.int .i64 1)).run Tryz.prog W = .ok f1 W:=fun _ _ _ _ _=>by kernel_rfl
 have HB:=Lib.hid (fun o1 o2 o3 n=>show Below w.heap.size w ((((w.alloc o1).alloc o2).alloc o3).drewN n) from below_drewN ((((Below.refl _ _).alloc (Nat.le_refl _) _).alloc (by simp) _).alloc (by simp;omega) _) n)
 go_enter Tryz.func137,Tryz.ntmps137
 go_wp2_with fail
 go_region_held3 (fun W=>W.cell? ⟨w.heap.size,0,none⟩=some (.string ⟨n.toArray⟩)∧W.cell? ⟨w.heap.size,1,none⟩=some (.string ⟨d.toArray⟩)∧W.cell? ⟨w.heap.size+1,0,none⟩=some (.string ⟨n'.toArray⟩)∧W.cell? ⟨w.heap.size+1,1,none⟩=some (.string ⟨d'.toArray⟩))
  (first | exact ⟨j0,j1,j2,j3⟩ | exact ⟨k0,k1,k2,k3⟩ | exact ⟨(cell_two _ _ (by omega)).trans j0,(cell_two _ _ (by omega)).trans j1,(cell_two _ _ (by omega)).trans j2,(cell_two _ _ (by omega)).trans j3⟩ | go_keep)
  (first | (go_at_call 168;refine (operations_any _).mono ?_;rintro e w1 ⟨f0,f2,f3,bm,rfl,⟨T,hBm⟩,hb1⟩;obtain ⟨q1,q2,q3⟩:=boxes3 (n:=1) hb1;have k0:=cell_at q1 0;have k1:=cell_at q1 1;have k2:=cell_at q2 0;have k3:=cell_at q2 1;have Q3:=Lib.hid (show Box w1 (w.heap.size+1+1) _ _ from ⟨(Array.getElem?_eq_some_iff.1 q3).1,q3⟩);have l1:=(Array.getElem?_eq_some_iff.1 q1).1;have l2:=(Array.getElem?_eq_some_iff.1 q2).1;have HB1:=Lib.hid (below_up (HB.out _ _ _ 1) hb1);have HBM:=Lib.hid hBm;clear q1 q2 q3 hb1 hBm) | (go_at_call 167;refine (HA.out bm T _ (HE.out.below HB1.out) HBM.out).mono ?_;rintro e w2 ⟨rfl,hb2⟩;have j0:=(hb2.cell (p:=⟨w.heap.size,0,none⟩) l1).trans k0;have j1:=(hb2.cell (p:=⟨w.heap.size,1,none⟩) l1).trans k1;have j2:=(hb2.cell (p:=⟨w.heap.size+1,0,none⟩) l2).trans k2;have j3:=(hb2.cell (p:=⟨w.heap.size+1,1,none⟩) l2).trans k3;have KR:=Q3.out.below hb2;have r0:=KR.cell 0;have r1:=KR.cell 1;have g0:=frozen_at KR.2 0;have g1:=frozen_at KR.2 1;have HB2:=Lib.hid (below_up HB1.out hb2);clear KR hb2))
 go_wp2
 exact bodyPost_ret (v:=.agg #[.string ⟨rn.toArray⟩,.string ⟨rd.toArray⟩]) (by simp [results,Tryz.results137,go_sem,r0,r1]) rfl ⟨rfl,(HB2.out.setCell (p:=⟨w.heap.size+1+1,0,none⟩) (by show _≤w.heap.size+1+1;omega) _).setCell (p:=⟨w.heap.size+1+1,1,none⟩) (by show _≤w.heap.size+1+1;omega) _⟩
theorem fden_len {z:Int} {K:Nat} (h:(canon z).length≤K):(fden z).length≤K:=by unfold fden;split;simp;exact h
theorem sub_lens {n d n' d':List UInt8} (hn:n.length≤60) (hd:d.length≤60) (hn':n'.length≤60) (hd':d'.length≤60) :
  (canon (rnum (subN n d n' d') (subD d d'))).length≤124∧(fden (rden (subN n d n' d') (subD d d'))).length≤124:=by
 have dl:=denS_len (d:=d) (K:=60) (by decide) hd
 have dl':=denS_len (d:=d') (K:=60) (by decide) hd'
 have m1:=mul_len (l:=n) (m:=denS d') hn dl' (by decide)
 have m2:=mul_len (l:=n') (m:=denS d) hn' dl (by decide)
 have m3:=mul_len (l:=denS d) (m:=denS d') dl dl' (by decide)
 have m4:=sub_len (l:=canon (val n * val (denS d'))) (m:=canon (val n' * val (denS d))) (K:=121) (by omega) (by omega)
 rw [val_canon,val_canon,val_denS,val_denS] at m4
 rw [val_denS,val_denS] at m3
 refine ⟨canon_len_of (K:=123) (by decide) (rnum_abs (subD_ne d d')) (val_canon _).symm m4,fden_len (canon_len_of (K:=123) (by decide) (rden_abs (subD_ne d d')) (val_canon _).symm (show (canon (subD d d')).length≤123 by unfold subD;omega))⟩
theorem fracCompare_any (n d n' d':List UInt8) (w:World) (hE:Env w) (hn:n.length≤60) (hd:d.length≤60) (hn':n'.length≤60) (hd':d'.length≤60) :
  Calls Tryz.prog 112 #[.agg #[.string ⟨n.toArray⟩,.string ⟨d.toArray⟩],.agg #[.string ⟨n'.toArray⟩,.string ⟨d'.toArray⟩]] w fun e w'=>e = .returned (.int .i64 (cmpI (rnum (subN n d n' d') (subD d d')) 0))∧Below w.heap.size w w':=by
 have HE:=Lib.hid hE
 have HS:=Lib.hid (fun W hE=>fracSub_any n d n' d' W hE hn hd hn' hd')
 have hl:=sub_lens hn hd hn' hd'
 have HP:=Lib.hid (fun W=>parts_any (canon (rnum (subN n d n' d') (subD d d'))) (fden (rden (subN n d n' d') (subD d d'))) W (by omega))
 have HC:=Lib.hid (fun W=>Compare_any (canon (rnum (subN n d n' d') (subD d d'))) [] W (by omega) (by simp))
 rw [val_canon,show val []=0 from rfl] at HC
 generalize canon (rnum (subN n d n' d') (subD d d'))=rn at *
 generalize fden (rden (subN n d n' d') (subD d d'))=rd at *
 generalize cmpI (rnum (subN n d n' d') (subD d d')) 0=cv at *
 generalize denS rd=rds at *
 clear hE hl hn hd hn' hd'
 go_enter Tryz.func112,Tryz.ntmps112
 go_wp2_with fail
 refine (HS.out _ (HE.out.below (((Below.refl _ _).alloc (Nat.le_refl _) _).alloc (by simp) _))).mono ?_
 rintro e w1 ⟨rfl,hb1⟩
 have HB1:=Lib.hid (below_up (((Below.refl w.heap.size w).alloc (Nat.le_refl _) _).alloc (by simp) _) hb1)
 clear hb1
 go_wp2_with fail
 refine (HP.out _).mono ?_
 rintro e w2 ⟨rfl,hb2⟩
 have HB2:=Lib.hid (below_up HB1.out hb2)
 clear hb2
 go_wp2_with fail
 refine (HC.out _).mono ?_
 rintro e w3 ⟨rfl,hb3⟩
 go_wp2
 go_ret
 exact ⟨rfl,below_up HB2.out hb3⟩
end
end Go.Proofs.YtbcebibkpfklnaaGreatDoor
