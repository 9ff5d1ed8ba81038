/- Append -/
import Derived.Test.YtgopbldkhlmbnaaGreatDoorJRowF
import Derived.Test.YtgopbldkhlmbnaaGreatDoorJLog
import Derived.Test.YtgopbldkhlmbnaaGreatDoorJOrder
import Derived.Test.YtgopbldkhlmbnaaGreatDoorJText
import Derived.Lib.SliceRun
import Derived.Deep.AppendLies
set_option maxHeartbeats 16000000
set_option maxRecDepth 100000
namespace Go.Proofs.YtgopbldkhlmbnaaGreatDoor
open Go Go.RowKit Num
def late (fs:List FactP) (f:FactP):Bool:=(fs.getLast?).any (fun g=>decide (f.stamp < g.stamp))
def appErr (fs:List FactP) (f:FactP):Int:=if lcheck fs ≠ 0 then 1 else if fs.length=1000 then 4 else if fcheck f ≠ 0 then fcheck f else if late fs f=true then 8 else 0
def appRow (xs:List FactV) (x:FactV):List FactV:=if appErr (xs.map FactV.f) x.f=0 then xs ++ [x] else []
theorem Facts.flatCells {w:World} {a:Option Addr} {xs:List FactV} (h:Facts w a xs) (hne:xs ≠ []):∃ b off,a=some ⟨b,off,none⟩∧b < w.heap.size∧∀ j u,(flatF xs)[j]? = some u→w.cell? ⟨b,off+j,none⟩=some u :=
 h.1.flatCells cells21 (by simpa using hne)
theorem cloneFact_any (xs:List FactV) (a:Option Addr) (c:Nat) (w:World) (hn:xs.length≤1000) (hz:Facts w a xs) :
  Calls Tryz.prog 48 #[.slice a xs.length c] w fun e w' => ∃ v,e = .returned v∧w'.ownsRow w.heap.size 36 21 v xs.length (flatF xs)∧Below w.heap.size w w':=by
 obtain ⟨i0,hi,hz0,hz1,hz2⟩:=info_parts infoFact
 have q22:∀ (w:World) (a:Option Addr) (n c n' c':Nat),(binOp .eql 22 (.slice a n c) (.slice none n' c')).run Tryz.prog w = .ok (.bool a.isNone) w:=fun w a n c n' c'=>Lib.run_eql_slice_nil w _ _ a n c n' c' Tryz.underlying22
 have HZ:=Lib.hid hz
 clear hz
 cases a with
 | none =>
  have h0:xs=[]:=by
   rcases HZ.out.1 with h | ⟨b,off,h,_⟩
   ·simpa using h
   ·cases h
  subst h0
  go_enter Tryz.func48,Tryz.ntmps48
  go_wp2
  go_ret
  exact ⟨_,rfl,World.ownsRow_nil _ _ _ _,Below.refl _ _⟩
 | some ad =>
  by_cases hne:xs=[]
  ·subst hne
   go_enter Tryz.func48,Tryz.ntmps48
   go_wp2_with (at_builtin;refine wpList_append_none _ rfl _ _ 22 rfl 36 i0 Tryz.underlying22 hi w.heap.size 21 _ _ _ rfl (World.ownsRow_made w #[] 0 (Nat.le_refl _) (Nat.zero_le _) rfl) (some ad) c rfl ?_)
   go_wp2
   go_ret
   exact ⟨_,rfl,World.ownsRow_made w #[] 0 (Nat.le_refl _) (Nat.zero_le _) rfl,below_alloc _ _⟩
  ·obtain ⟨bs,os,ha,hlt,hcc⟩:=HZ.out.flatCells hne
   injection ha with ha
   subst ha
   have HC:=Lib.hid hcc
   have HL:=Lib.hid (flatF_len xs)
   clear hcc hne HZ
   go_enter Tryz.func48,Tryz.ntmps48
   go_wp2_with (at_builtin;refine wpList_append_own_at _ rfl _ _ 22 rfl w.heap.size 36 i0 zFact 21 312 Tryz.underlying22 hi hz0 hz1 hz2 rfl (by decide) _ _ _ rfl (World.ownsRow_made w #[] 0 (Nat.le_refl _) (Nat.zero_le _) rfl) ⟨bs,os,none⟩ xs.length c (flatF xs) rfl HL.out ?c1 (fun u hu=>flatF_oneCell u hu) ?c3 ?c4 ?c5 ?_)
   case c1 =>
    intro j u hj
    rw [addr_add]
    exact Lib.cell?_alloc_some _ (HC.out j u hj)
   case c3=>unfold maxLen;omega
   case c4=>omega
   case c5=>simp
   intro v' w3 hown' hgrow _ _
   have HO:=Lib.hid hown'
   have HB:Hid (Below w.heap.size w w3):=(((Below.refl _ w).alloc (Nat.le_refl _) _).grown hgrow (by simp) (by intro k hk;simp [Value.ownBlock] at hk;omega))
   clear hown' hgrow
   go_wp2
   go_ret
   exact ⟨v',rfl,by simpa using HO.out,HB.out⟩
theorem run_one (fc:Array Value) (hs:fc.size=21) (w:World):(Instr.buildSlice 22 1 #[(0,.agg fc)]).run Tryz.prog w = .ok (.slice (some ⟨w.heap.size,0,none⟩) 1 1) (w.alloc (.cells fc 36)):=by
 obtain ⟨l⟩:=fc
 match l,hs with
 | [a0,a1,a2,a3,a4,a5,a6,a7,a8,a9,a10,a11,a12,a13,a14,a15,a16,a17,a18,a19,a20],_=>simp [go_sem]
theorem o_slice2 {P:Program} {o:Oper} {a:Act} {w:World} {K:Act→World→Prop} {Q:Exit→Act→World→Prop} {t:TypeId} {n:Nat} {ps:Array (Nat × Operand)} {qs:Array (Nat × Value)} {v:Value} {w':World} (hop:o.op = .buildSlice t n ps) (hq:(ps.map fun (i,x)=>(i,a.eval x))=qs) (hrun:(Instr.buildSlice t n qs).run P w = .ok v w') (h:K (a.put o.dst v) w'):o.wp P a w K Q :=
 o_slice hop (by rw [hq];exact hrun) h
theorem yields_load {P:Program} {o:Oper} {a:Act} {ty:TypeId} {x:Operand} {b off:Nat} {cs:Array Value} {d:TypeDesc} {w:World} (ho:o.op = .load ty x) (hx:a.eval x = .pointer (some ⟨b,off,none⟩)) (hc:∀ j v,cs.toList[j]? = some v→w.cell? ⟨b,off+j,none⟩=some v)
  (hu:P.underlying ty=some d) (hd:(match d with | .struct _ | .array _ _=>true | _=>false)=true) (hi:(P.info? ty).map (·.size)=some cs.size):(execOp a.eval o).run P w = .ok (.value (.agg cs)) w:=by
 unfold execOp
 simp only [ho,hx,Instr.loadAt,Instr.sureAddr,Sem.run_bind,Sem.run_pure,Result.andThen_ok,run_loadVar_at w b off ty cs d hc hu hd hi]
theorem Box.list {w:World} {b:Nat} {cs:Array Value} {T:TypeId} (h:Box w b cs T):∀ j v,cs.toList[j]? = some v→w.cell? ⟨b,0+j,none⟩=some v:=by
 intro j v hv
 rw [Nat.zero_add,h.cell j,← Array.getElem?_toList]
 exact hv
theorem owns_weak {w:World} {b b' e size n:Nat} {v:Value} {xs:List Value} (h:w.ownsRow b e size v n xs) (hb:b'≤b):w.ownsRow b' e size v n xs :=
 ⟨h.1,h.2.imp id fun ⟨g,cap,cur,h1,h2,r⟩=>⟨g,cap,cur,h1,Nat.le_trans hb h2,r⟩⟩
theorem news_one {W:World} {B:Nat} {fc:Array Value} {T:TypeId} {L:List Value} (hB:W.heap[B]? = some (.cells fc T (0,0))) (h:L=fc.toList):∀ j u,L[j]? = some u→W.cell? ((⟨B,0,none⟩:Addr).add j)=some u:=by
 intro j u hu
 rw [addr_add,Nat.zero_add,cell_at hB j,← Array.getElem?_toList,← h]
 exact hu
theorem app_done {w':World} {a0:Option Addr} {xs:List FactV} {x:FactV} {er:Int} {base n gg cc:Nat} (hl:Facts w' a0 xs) (hb:x.f.Behind w' x.pa x.oa) (ho:w'.ownsRow base 36 21 (.slice (some ⟨gg,0,none⟩) (n+1) cc) (n+1) (flatF xs ++ flatF [x])) (hn:xs.length=n) (hrow:appRow xs x=if er=0 then xs ++ [x] else []) (he:er=0) :
  ∃ a' c',(Ending.returned (.tuple #[.slice (some ⟨gg,0,none⟩) (n+1) cc,.int .i64 0]):Ending) = .returned (.tuple #[.slice a' (appRow xs x).length c',.int .i64 er])∧Facts w' a' (appRow xs x)∧(appRow xs x).length≤c':=by
 rw [if_pos he] at hrow
 subst he
 rw [← flatF_append] at ho
 have hl2:(xs ++ [x]).length=n+1:=by simp [hn]
 rw [← hl2] at ho
 obtain ⟨a,c,e,h1,h2⟩:=facts_of_owned ho (fun y hy=>by
  rcases List.mem_append.1 hy with hy | hy
  ·exact hl.2 y hy
  ·rw [List.mem_singleton] at hy;subst hy;exact hb)
 rw [hrow,← hl2]
 exact ⟨a,c,by rw [e],h1,h2⟩
theorem late_none {fs:List FactP} {f:FactP} (h:fs.length=0):late fs f=false:=by
 have:=List.length_eq_zero_iff.1 h
 subst this
 rfl
theorem late_at {fs:List FactP} {f g:FactP} {m:Nat} (h:fs.length=m+1) (hg:fs[m]? = some g):late fs f=decide (f.stamp < g.stamp):=by
 unfold late
 rw [List.getLast?_eq_getElem?,h,Nat.add_sub_cancel,hg]
 rfl
theorem append_any (xs:List FactV) (x:FactV) (a:Option Addr) (c:Nat) (w:World) (hE:Env w) (hl:LogAt w a c xs) (hx:x.ok) (hb:x.f.Behind w x.pa x.oa) :
  Calls Tryz.prog 15 #[.slice a xs.length c,.agg x.arr] w fun e w'=>(∃ a' c',e = .returned (.tuple #[.slice a' (appRow xs x).length c',.int .i64 (appErr (xs.map FactV.f) x.f)])∧Facts w' a' (appRow xs x)∧(appRow xs x).length≤c')∧Below w.heap.size w w':=by
 obtain ⟨i0,hi,hz0,hz1,hz2⟩:=info_parts infoFact
 have HE:=Lib.hid hE
 have HL:=Lib.hid hl
 have HX:=Lib.hid hx
 have HBX:=Lib.hid hb
 have hlen:=hl.len
 have HCK:Hid (∀ W,Below w.heap.size w W→Calls Tryz.prog 11 #[.slice a xs.length c] W fun e w'=>e = .returned (.int .i64 (lcheck (xs.map FactV.f)))∧Below W.heap.size W w'):=fun W hbw=>logCheck_any xs a c W (hE.below hbw) hl.len (hl.below hbw).facts hl.ok
 have HFC:Hid (∀ W,Below w.heap.size w W→Calls Tryz.prog 41 #[.agg x.arr] W fun e w'=>e = .returned (.int .i64 (fcheck x.f))∧Below W.heap.size W w'):=fun W hbw=>factCheck_any x.f x.pa x.oa x.pc x.oc W (hE.below hbw) hx.small hx.cap (hb.below hbw)
 have HCN:Hid (xs.length≤1000→∀ W,Below w.heap.size w W→Calls Tryz.prog 48 #[.slice a xs.length c] W fun e w' => ∃ v,e = .returned v∧w'.ownsRow W.heap.size 36 21 v xs.length (flatF xs)∧Below W.heap.size W w'):=fun h W hbw=>cloneFact_any xs a c W h (hl.facts.below hbw)
 clear hE hl hx hb
 have KX:=Lib.hid (Box.new0 w x.arr 36)
 have HB0:=Lib.hid (below_alloc w (.cells x.arr 36))
 have HSZ:Hid ((Tryz.prog.info? 36).map (·.size)=some x.arr.size):=factSize x.f x.pa x.oa x.pc x.oc
 have HST:Hid (x.arr[1]? = some (.int .i64 x.f.stamp)):=rfl
 have HS21:Hid (x.arr.size=21):=rfl
 have HONE:=Lib.hid (cells_one x)
 have HFL:=Lib.hid (flatF_one x)
 obtain ⟨le,hle⟩:∃ le,le=lcheck (xs.map FactV.f):=⟨_,rfl⟩
 obtain ⟨fe,hfe⟩:∃ fe,fe=fcheck x.f:=⟨_,rfl⟩
 obtain ⟨er,her⟩:∃ er,er=appErr (xs.map FactV.f) x.f:=⟨_,rfl⟩
 have HER:Hid (er=if le ≠ 0 then 1 else if xs.length=1000 then 4 else if fe ≠ 0 then fe else if late (xs.map FactV.f) x.f=true then 8 else 0):=by
  show _=_
  rw [her,hle,hfe]
  unfold appErr
  rw [List.length_map]
 have HROW:Hid (appRow xs x=if er=0 then xs ++ [x] else []):=by show _=_;rw [her];rfl
 rw [← hle] at HCK
 rw [← hfe] at HFC
 rw [← her]
 have HLE:=Lib.hid hle
 clear hle hfe her
 have HNO:Hid (er ≠ 0→∀ W,Below w.heap.size w W→(∃ a' c',(Ending.returned (.tuple #[.slice none 0 0,.int .i64 er]):Ending) = .returned (.tuple #[.slice a' (appRow xs x).length c',.int .i64 er])∧Facts W a' (appRow xs x)∧(appRow xs x).length≤c')∧Below w.heap.size w W):=fun h W hb=>by
  have e:appRow xs x=[]:=by rw [HROW.out,if_neg h]
  rw [e]
  exact ⟨⟨none,0,rfl,⟨.inl rfl,fun y hy=>by simp at hy⟩,Nat.le_refl _⟩,hb⟩
 generalize hfc:x.arr=fc at *
 clear hfc
 go_enter Tryz.func15,Tryz.ntmps15
 go_wp2_with fail
 refine (HCK.out _ HB0.out).mono ?_
 rintro e w1 ⟨rfl,hb1⟩
 have KX:=Lib.hid (KX.out.below hb1)
 have HB1:=Lib.hid (below_up HB0.out hb1)
 clear hb1 HCK
 by_cases h0:le=0
 ·subst h0
  by_cases h1:xs.length=1000
  ·have HE4:Hid (er=4):=by show _=_;rw [HER.out,if_neg (by simp),if_pos h1]
   have HN:=Lib.hid (HNO.out (by rw [HE4.out];decide) w1 HB1.out)
   clear HER HROW HNO
   go_wp2
   go_ret2
   have h:=HN.out
   rw [HE4.out] at h ⊢
   exact h
  ·have h1b:((xs.length:Int) == 1000)=false:=by simp;omega
   go_wp2_with (refine wpList_load_row rfl 36 _ rfl w.heap.size rfl 36 fc (0,0) _ KX.out.2 Tryz.underlying36 rfl HSZ.out ?_)
   refine (HFC.out _ HB1.out).mono ?_
   rintro e w2 ⟨rfl,hb2⟩
   have KX:=Lib.hid (KX.out.below hb2)
   have HB2:=Lib.hid (below_up HB1.out hb2)
   clear hb2 HFC
   by_cases hf0:fe=0
   ·subst hf0
    have HNS:Hid ((xs.map FactV.f).length=xs.length):=List.length_map ..
    have c1:=(KX.out.cell 1).trans HST.out
    have HER2:Hid (er=if late (xs.map FactV.f) x.f=true then 8 else 0):=by show _=_;rw [HER.out,if_neg (by simp),if_neg h1,if_neg (by simp)]
    clear HER
    generalize hn:xs.length=n at *
    have hn1:n≤1000:=by have h:=(lcheck_zero HLE.out.symm).1;rw [HNS.out] at h;exact h
    cases n with
    | zero =>
     have HE0:Hid (er=0):=by show _=_;rw [HER2.out,if_neg (by rw [late_none HNS.out];decide)]
     clear HER2 HNO
     go_wp2_with fail
     go_quiet (fail)
     go_wp2_with fail
     refine wp_region_held_drew (S:=fun W=>Box W w.heap.size fc 36) (by kernel_rfl) ?hS1 (fun hHeld => ?hR1)
     case hS1=>exact KX.out.below (by first | exact below_drewN (Below.refl w2.heap.size w2) _ | exact below_drewN (below_drewN (Below.refl w2.heap.size w2) _) 1)
     refine tk 0 (some 33) (?v2) rfl rfl ?hy2 ?hR2
     case hy2=>(intro W hSw;go_simp;try rfl)
     simp only [pS]
     refine tk 2 (some 35) (.agg fc) rfl rfl ?hy3 ?hR3
     case hy3=>(intro W hSw;exact yields_load rfl rfl hSw.list Tryz.underlying36 rfl HSZ.out)
     simp only [pS]
     refine wpAnyH_ready (rs:=[1,3]) (by kernel_rfl) (by simp) ?_
     refine AllReadyH.cons (o:=_) rfl (fun K hK => ?hA1) (AllReadyH.cons (o:=_) rfl (fun K hK => ?hB1) AllReadyH.nil)
     case hA1 =>
      rw [if_pos (by rfl)]
      go_simp
      go_at_call 48
      refine (HCN.out hn1 _ (below_up HB2.out (by first | exact below_drewN (Below.refl w2.heap.size w2) _ | exact below_drewN (below_drewN (Below.refl w2.heap.size w2) _) 1))).mono ?_
      rintro e w9 ⟨vq,rfl,hoq,hb9⟩
      have HBQ:=Lib.hid (below_up (by first | exact below_drewN (Below.refl w2.heap.size w2) _ | exact below_drewN (below_drewN (Below.refl w2.heap.size w2) _) 1) hb9)
      have HSB:=Lib.hid HBQ.out.size
      have ho9:=Lib.hid (owns_weak (b':=w2.heap.size) hoq (Below.size (B:=w2.heap.size) (w:=w2) (by first | exact below_drewN (Below.refl w2.heap.size w2) _ | exact below_drewN (below_drewN (Below.refl w2.heap.size w2) _) 1)))
      go_wp2_with fail
      refine hK.out _ _ ?hS4 (fun hHeld => ?hR4)
      case hS4=>exact KX.out.below HBQ.out
      refine wpAnyH_ready (rs:=[3]) (by kernel_rfl) (by simp) ?_
      refine AllReadyH.cons (o:=_) rfl (fun K hK => ?hC1) AllReadyH.nil
      rw [if_pos (by rfl)]
      simp only [List.getElem_toArray,List.getElem_cons_succ,List.getElem_cons_zero]
      refine o_slice2 rfl (by simp [Act.eval]) (run_one fc HS21.out _) ?_
      refine hK.out _ _ ?hS5 (fun hHeld => ?hR5)
      case hS5=>exact KX.out.below (below_up HBQ.out (below_alloc _ _))
      simp only [pS]
      refine wpAnyH_ready (rs:=[4]) (by kernel_rfl) (by simp) ?_
      refine AllReadyH.cons (o:=_) rfl (fun K hK => ?hD1) AllReadyH.nil
      rw [if_pos (by rfl)]
      simp only [List.getElem_toArray,List.getElem_cons_succ,List.getElem_cons_zero]
      refine wp_append_lies _ (.tmp 34) (.tmp 36) 22 rfl w2.heap.size 36 i0 zFact 21 312 Tryz.underlying22 hi hz0 hz1 hz2 rfl (by decide) vq 0 (flatF xs) (by simp [Act.eval]) (ho9.out.alloc _) ⟨w9.heap.size,0,none⟩ 1 1 (flatF [x]) (by simp [Act.eval]) (flatF_len [x]) (news_one (heap_alloc_new w9 _) HFL.out) flatF_oneCell (by decide) (by unfold maxLen;omega) (by omega) (Below.size (below_up HBQ.out (below_alloc _ _))) _ rfl ?_
      intro gg cc w10 ho10 hg10 _ _
      have HBT:=Lib.hid (grown_below (ho9.out.alloc _) hg10 (below_up HBQ.out (below_alloc _ _)) (Below.size (below_up HBQ.out (below_alloc _ _))))
      have HB10:=Lib.hid (below_up HB2.out HBT.out)
      have HO10:=Lib.hid ho10
      clear hg10 ho10
      refine hK.out _ _ ?hS6 (fun hHeld => ?hR6)
      case hS6=>exact KX.out.below HBT.out
      simp only [pS]
      refine tk 5 (some 4) (?v7) rfl rfl ?hy7 ?hR7
      case hy7=>(intro W hSw;go_simp;try rfl)
      simp only [pS]
      refine tk 6 (some 5) (?v8) rfl rfl ?hy8 ?hR8
      case hy8=>(intro W hSw;go_simp;try rfl)
      simp only [pS]
      refine wpAnyH_done (by kernel_rfl) ?_ _
      go_wp2
      go_ret2
      exact ⟨app_done (HL.out.facts.below HB10.out) (HBX.out.below HB10.out) HO10.out hn HROW.out HE0.out,HB10.out⟩
     case hB1 =>
      rw [if_pos (by rfl)]
      simp only [List.getElem_toArray,List.getElem_cons_succ,List.getElem_cons_zero]
      refine o_slice2 rfl (by simp [Act.eval]) (run_one fc HS21.out _) ?_
      refine hK.out _ _ ?hS9 (fun hHeld => ?hR9)
      case hS9=>exact KX.out.below (below_up (by first | exact below_drewN (Below.refl w2.heap.size w2) _ | exact below_drewN (below_drewN (Below.refl w2.heap.size w2) _) 1) (below_alloc _ _))
      simp only [pS]
      refine wpAnyH_ready (rs:=[1]) (by kernel_rfl) (by simp) ?_
      refine AllReadyH.cons (o:=_) rfl (fun K hK => ?hE1) AllReadyH.nil
      rw [if_pos (by rfl)]
      go_simp
      go_at_call 48
      refine (HCN.out hn1 _ (below_up HB2.out (below_up (by first | exact below_drewN (Below.refl w2.heap.size w2) _ | exact below_drewN (below_drewN (Below.refl w2.heap.size w2) _) 1) (below_alloc _ _)))).mono ?_
      rintro e w9 ⟨vq,rfl,hoq,hb9⟩
      have HBQ:=Lib.hid (below_up (below_up (by first | exact below_drewN (Below.refl w2.heap.size w2) _ | exact below_drewN (below_drewN (Below.refl w2.heap.size w2) _) 1) (below_alloc _ _)) hb9)
      have HSB:=Lib.hid HBQ.out.size
      have ho9:=Lib.hid (owns_weak (b':=w2.heap.size) hoq (Below.size (B:=w2.heap.size) (w:=w2) (below_up (by first | exact below_drewN (Below.refl w2.heap.size w2) _ | exact below_drewN (below_drewN (Below.refl w2.heap.size w2) _) 1) (below_alloc _ _))))
      go_wp2_with fail
      refine hK.out _ _ ?hS10 (fun hHeld => ?hR10)
      case hS10=>exact KX.out.below HBQ.out
      refine wpAnyH_ready (rs:=[4]) (by kernel_rfl) (by simp) ?_
      refine AllReadyH.cons (o:=_) rfl (fun K hK => ?hF1) AllReadyH.nil
      rw [if_pos (by rfl)]
      simp only [List.getElem_toArray,List.getElem_cons_succ,List.getElem_cons_zero]
      refine wp_append_lies _ (.tmp 34) (.tmp 36) 22 rfl w2.heap.size 36 i0 zFact 21 312 Tryz.underlying22 hi hz0 hz1 hz2 rfl (by decide) vq 0 (flatF xs) (by simp [Act.eval]) ho9.out ⟨w2.heap.size,0,none⟩ 1 1 (flatF [x]) (by simp [Act.eval]) (flatF_len [x]) (news_one ((hb9.block _ (by simp)).trans (heap_alloc_new _ _)) HFL.out) flatF_oneCell (by decide) (by unfold maxLen;omega) (by omega) (Below.size HBQ.out) _ rfl ?_
      intro gg cc w10 ho10 hg10 _ _
      have HBT:=Lib.hid (grown_below ho9.out hg10 HBQ.out (Below.size HBQ.out))
      have HB10:=Lib.hid (below_up HB2.out HBT.out)
      have HO10:=Lib.hid ho10
      clear hg10 ho10
      refine hK.out _ _ ?hS11 (fun hHeld => ?hR11)
      case hS11=>exact KX.out.below HBT.out
      simp only [pS]
      refine tk 5 (some 4) (?v12) rfl rfl ?hy12 ?hR12
      case hy12=>(intro W hSw;go_simp;try rfl)
      simp only [pS]
      refine tk 6 (some 5) (?v13) rfl rfl ?hy13 ?hR13
      case hy13=>(intro W hSw;go_simp;try rfl)
      simp only [pS]
      refine wpAnyH_done (by kernel_rfl) ?_ _
      go_wp2
      go_ret2
      exact ⟨app_done (HL.out.facts.below HB10.out) (HBX.out.below HB10.out) HO10.out hn HROW.out HE0.out,HB10.out⟩
    | succ m =>
     obtain ⟨y,hy⟩:∃ y,xs[m]? = some y:=⟨xs[m]'(by omega),List.getElem?_eq_getElem _⟩
     obtain ⟨b,off,rfl,hbl,_,hcs⟩:=HL.out.facts.cell hy
     have cp:w2.cell? ⟨b,off+m * 21+1,none⟩=some (.int .i64 y.f.stamp):=(HB2.out.cell (p:=⟨b,off+m * 21+1,none⟩) hbl).trans hcs
     have HLT:=Lib.hid (late_at (f:=x.f) HNS.out (show (xs.map FactV.f)[m]? = some y.f by rw [List.getElem?_map,hy];rfl))
     rw [HLT.out] at HER2
     clear hy hcs HLT
     generalize x.f.stamp=sx at *
     generalize y.f.stamp=sy at *
     by_cases hlt:sx < sy
     ·have HE8:Hid (er=8):=by show _=_;rw [HER2.out,if_pos (by simpa using hlt)]
      clear HER2 HROW
      have HN:=Lib.hid (HNO.out (by rw [HE8.out];decide))
      clear HNO
      go_wp2_with fail
      go_quiet (fail)
      go_wp2
      go_ret2
      have h:=HN.out
      rw [HE8.out] at h ⊢
      exact h _ (below_drewN HB2.out _)
     ·have HE0:Hid (er=0):=by show _=_;rw [HER2.out,if_neg (by simpa using hlt)]
      clear HER2 HNO
      go_wp2_with fail
      go_quiet (fail)
      go_wp2_with fail
      refine wp_region_held_drew (S:=fun W=>Box W w.heap.size fc 36) (by kernel_rfl) ?hS14 (fun hHeld => ?hR14)
      case hS14=>exact KX.out.below (by first | exact below_drewN (Below.refl w2.heap.size w2) _ | exact below_drewN (below_drewN (Below.refl w2.heap.size w2) _) 1)
      refine tk 0 (some 33) (?v15) rfl rfl ?hy15 ?hR15
      case hy15=>(intro W hSw;go_simp;try rfl)
      simp only [pS]
      refine tk 2 (some 35) (.agg fc) rfl rfl ?hy16 ?hR16
      case hy16=>(intro W hSw;exact yields_load rfl rfl hSw.list Tryz.underlying36 rfl HSZ.out)
      simp only [pS]
      refine wpAnyH_ready (rs:=[1,3]) (by kernel_rfl) (by simp) ?_
      refine AllReadyH.cons (o:=_) rfl (fun K hK => ?hA14) (AllReadyH.cons (o:=_) rfl (fun K hK => ?hB14) AllReadyH.nil)
      case hA14 =>
       rw [if_pos (by rfl)]
       go_simp
       go_at_call 48
       refine (HCN.out hn1 _ (below_up HB2.out (by first | exact below_drewN (Below.refl w2.heap.size w2) _ | exact below_drewN (below_drewN (Below.refl w2.heap.size w2) _) 1))).mono ?_
       rintro e w9 ⟨vq,rfl,hoq,hb9⟩
       have HBQ:=Lib.hid (below_up (by first | exact below_drewN (Below.refl w2.heap.size w2) _ | exact below_drewN (below_drewN (Below.refl w2.heap.size w2) _) 1) hb9)
       have HSB:=Lib.hid HBQ.out.size
       have ho9:=Lib.hid (owns_weak (b':=w2.heap.size) hoq (Below.size (B:=w2.heap.size) (w:=w2) (by first | exact below_drewN (Below.refl w2.heap.size w2) _ | exact below_drewN (below_drewN (Below.refl w2.heap.size w2) _) 1)))
       go_wp2_with fail
       refine hK.out _ _ ?hS17 (fun hHeld => ?hR17)
       case hS17=>exact KX.out.below HBQ.out
       refine wpAnyH_ready (rs:=[3]) (by kernel_rfl) (by simp) ?_
       refine AllReadyH.cons (o:=_) rfl (fun K hK => ?hC14) AllReadyH.nil
       rw [if_pos (by rfl)]
       simp only [List.getElem_toArray,List.getElem_cons_succ,List.getElem_cons_zero]
       refine o_slice2 rfl (by simp [Act.eval]) (run_one fc HS21.out _) ?_
       refine hK.out _ _ ?hS18 (fun hHeld => ?hR18)
       case hS18=>exact KX.out.below (below_up HBQ.out (below_alloc _ _))
       simp only [pS]
       refine wpAnyH_ready (rs:=[4]) (by kernel_rfl) (by simp) ?_
       refine AllReadyH.cons (o:=_) rfl (fun K hK => ?hD14) AllReadyH.nil
       rw [if_pos (by rfl)]
       simp only [List.getElem_toArray,List.getElem_cons_succ,List.getElem_cons_zero]
       refine wp_append_lies _ (.tmp 34) (.tmp 36) 22 rfl w2.heap.size 36 i0 zFact 21 312 Tryz.underlying22 hi hz0 hz1 hz2 rfl (by decide) vq (m+1) (flatF xs) (by simp [Act.eval]) (ho9.out.alloc _) ⟨w9.heap.size,0,none⟩ 1 1 (flatF [x]) (by simp [Act.eval]) (flatF_len [x]) (news_one (heap_alloc_new w9 _) HFL.out) flatF_oneCell (by decide) (by unfold maxLen;omega) (by omega) (Below.size (below_up HBQ.out (below_alloc _ _))) _ rfl ?_
       intro gg cc w10 ho10 hg10 _ _
       have HBT:=Lib.hid (grown_below (ho9.out.alloc _) hg10 (below_up HBQ.out (below_alloc _ _)) (Below.size (below_up HBQ.out (below_alloc _ _))))
       have HB10:=Lib.hid (below_up HB2.out HBT.out)
       have HO10:=Lib.hid ho10
       clear hg10 ho10
       refine hK.out _ _ ?hS19 (fun hHeld => ?hR19)
       case hS19=>exact KX.out.below HBT.out
       simp only [pS]
       refine tk 5 (some 4) (?v20) rfl rfl ?hy20 ?hR20
       case hy20=>(intro W hSw;go_simp;try rfl)
       simp only [pS]
       refine tk 6 (some 5) (?v21) rfl rfl ?hy21 ?hR21
       case hy21=>(intro W hSw;go_simp;try rfl)
       simp only [pS]
       refine wpAnyH_done (by kernel_rfl) ?_ _
       go_wp2
       go_ret2
       exact ⟨app_done (HL.out.facts.below HB10.out) (HBX.out.below HB10.out) HO10.out hn HROW.out HE0.out,HB10.out⟩
      case hB14 =>
       rw [if_pos (by rfl)]
       simp only [List.getElem_toArray,List.getElem_cons_succ,List.getElem_cons_zero]
       refine o_slice2 rfl (by simp [Act.eval]) (run_one fc HS21.out _) ?_
       refine hK.out _ _ ?hS22 (fun hHeld => ?hR22)
       case hS22=>exact KX.out.below (below_up (by first | exact below_drewN (Below.refl w2.heap.size w2) _ | exact below_drewN (below_drewN (Below.refl w2.heap.size w2) _) 1) (below_alloc _ _))
       simp only [pS]
       refine wpAnyH_ready (rs:=[1]) (by kernel_rfl) (by simp) ?_
       refine AllReadyH.cons (o:=_) rfl (fun K hK => ?hE14) AllReadyH.nil
       rw [if_pos (by rfl)]
       go_simp
       go_at_call 48
       refine (HCN.out hn1 _ (below_up HB2.out (below_up (by first | exact below_drewN (Below.refl w2.heap.size w2) _ | exact below_drewN (below_drewN (Below.refl w2.heap.size w2) _) 1) (below_alloc _ _)))).mono ?_
       rintro e w9 ⟨vq,rfl,hoq,hb9⟩
       have HBQ:=Lib.hid (below_up (below_up (by first | exact below_drewN (Below.refl w2.heap.size w2) _ | exact below_drewN (below_drewN (Below.refl w2.heap.size w2) _) 1) (below_alloc _ _)) hb9)
       have HSB:=Lib.hid HBQ.out.size
       have ho9:=Lib.hid (owns_weak (b':=w2.heap.size) hoq (Below.size (B:=w2.heap.size) (w:=w2) (below_up (by first | exact below_drewN (Below.refl w2.heap.size w2) _ | exact below_drewN (below_drewN (Below.refl w2.heap.size w2) _) 1) (below_alloc _ _))))
       go_wp2_with fail
       refine hK.out _ _ ?hS23 (fun hHeld => ?hR23)
       case hS23=>exact KX.out.below HBQ.out
       refine wpAnyH_ready (rs:=[4]) (by kernel_rfl) (by simp) ?_
       refine AllReadyH.cons (o:=_) rfl (fun K hK => ?hF14) AllReadyH.nil
       rw [if_pos (by rfl)]
       simp only [List.getElem_toArray,List.getElem_cons_succ,List.getElem_cons_zero]
       refine wp_append_lies _ (.tmp 34) (.tmp 36) 22 rfl w2.heap.size 36 i0 zFact 21 312 Tryz.underlying22 hi hz0 hz1 hz2 rfl (by decide) vq (m+1) (flatF xs) (by simp [Act.eval]) ho9.out ⟨w2.heap.size,0,none⟩ 1 1 (flatF [x]) (by simp [Act.eval]) (flatF_len [x]) (news_one ((hb9.block _ (by simp)).trans (heap_alloc_new _ _)) HFL.out) flatF_oneCell (by decide) (by unfold maxLen;omega) (by omega) (Below.size HBQ.out) _ rfl ?_
       intro gg cc w10 ho10 hg10 _ _
       have HBT:=Lib.hid (grown_below ho9.out hg10 HBQ.out (Below.size HBQ.out))
       have HB10:=Lib.hid (below_up HB2.out HBT.out)
       have HO10:=Lib.hid ho10
       clear hg10 ho10
       refine hK.out _ _ ?hS24 (fun hHeld => ?hR24)
       case hS24=>exact KX.out.below HBT.out
       simp only [pS]
       refine tk 5 (some 4) (?v25) rfl rfl ?hy25 ?hR25
       case hy25=>(intro W hSw;go_simp;try rfl)
       simp only [pS]
       refine tk 6 (some 5) (?v26) rfl rfl ?hy26 ?hR26
       case hy26=>(intro W hSw;go_simp;try rfl)
       simp only [pS]
       refine wpAnyH_done (by kernel_rfl) ?_ _
       go_wp2
       go_ret2
       exact ⟨app_done (HL.out.facts.below HB10.out) (HBX.out.below HB10.out) HO10.out hn HROW.out HE0.out,HB10.out⟩
   ·have hf0':(fe == 0)=false:=by simpa using hf0
    have HEF:Hid (er=fe):=by show _=_;rw [HER.out,if_neg (by simp),if_neg h1,if_pos hf0]
    have HN:=Lib.hid (HNO.out (by rw [HEF.out];exact hf0) w2 HB2.out)
    clear HER HROW HNO
    go_wp2
    go_ret2
    have h:=HN.out
    rw [HEF.out] at h ⊢
    exact h
 ·have h0':(le == 0)=false:=by simpa using h0
  have HE1:Hid (er=1):=by show _=_;rw [HER.out,if_pos h0]
  have HN:=Lib.hid (HNO.out (by rw [HE1.out];decide) w1 HB1.out)
  clear HER HROW HNO
  go_wp2
  go_ret2
  have h:=HN.out
  rw [HE1.out] at h ⊢
  exact h
end Go.Proofs.YtgopbldkhlmbnaaGreatDoor
