/- Choice -/
import Derived.Test.YtbcebibkpfklnaaGreatDoorJLast
import Derived.Test.YtbcebibkpfklnaaGreatDoorJGreat2
set_option maxHeartbeats 16000000
set_option maxRecDepth 100000
namespace Go.Proofs.YtbcebibkpfklnaaGreatDoor
open Go Go.RowKit Num
theorem wfil_zero (xs:List FactV) (p:FactP→Bool):wfil xs p 0=xs.filter fun x=>p x.f:=rfl
theorem lastElect_wfil (xs:List FactV) (f:FactP):lastElect (xs.map FactV.f) f=(wfil xs (fun y=>elects y f) 0).getLast?.map FactV.f:=by
 unfold lastElect
 rw [wfil_zero,List.filter_map,List.getLast?_map]
 rfl
theorem lastArr_choice (xs:List FactV) (f:FactP):(lastArr (wfil xs (fun y=>elects y f) 0))[20]? = some (.int .i64 (chosen (xs.map FactV.f) f)):=by
 unfold chosen lastArr
 rw [lastElect_wfil]
 cases (wfil xs (fun y=>elects y f) 0).getLast? with
 | none=>rfl
 | some x=>rfl
theorem lastArr_key (xs:List FactV) (f:FactP):(lastArr (wfil xs (fun y=>elects y f) 0))[0]? = some (.string ⟨(((lastElect (xs.map FactV.f) f).map FactP.key).getD []).toArray⟩):=by
 unfold lastArr
 rw [lastElect_wfil]
 cases (wfil xs (fun y=>elects y f) 0).getLast? with
 | none=>rfl
 | some x=>rfl
theorem last_found (xs:List FactV) (f:FactP):(!(wfil xs (fun y=>elects y f) 0).isEmpty)=(lastElect (xs.map FactV.f) f).isSome:=by
 rw [lastElect_wfil]
 cases h:wfil xs (fun y=>elects y f) 0 with
 | nil=>rfl
 | cons x r=>simp
theorem xcheck_any (f:FactV) (w:World) (hE:Env w) (hf:f.ok) (hb:f.f.Behind w f.pa f.oa) :
  Calls Tryz.prog 16 #[.agg f.arr] w fun e w'=>e = .returned (.int .i64 (xcheck f.f))∧Below w.heap.size w w':=by
 have KF:=Box.new0 w f.arr 30
 have c4:=(KF.cell 4).trans (show _=some (.int .i64 f.f.kind) from rfl)
 have HB0:=Lib.hid (below_alloc w (.cells f.arr 30))
 have HSZ:Hid ((Tryz.prog.info? 30).map (·.size)=some f.arr.size):=factSize f.f f.pa f.oa f.pc f.oc
 have HCK:Hid (∀ W,Below w.heap.size w W→Calls Tryz.prog 32 #[.agg f.arr] W fun e w'=>e = .returned (.int .i64 (fcheck f.f))∧Below W.heap.size W w'):=fun W hbw=>factCheck_any f.f f.pa f.oa f.pc f.oc W (hE.below hbw) hf.small hf.cap (hb.below hbw)
 have HR:Hid (xcheck f.f=if fcheck f.f ≠ 0 then fcheck f.f else if f.f.kind ≠ 10 then 7 else 0):=rfl
 have KF:=Lib.hid KF
 clear hE hf hb
 generalize xcheck f.f=res at *
 generalize fcheck f.f=fe at *
 generalize f.arr=fc at *
 generalize f.f.kind=k at *
 go_enter Tryz.func16,Tryz.ntmps16
 go_wp2_with (refine wpList_load_row rfl 30 _ rfl w.heap.size rfl 30 fc (0,0) _ KF.out.2 Tryz.underlying30 rfl HSZ.out ?_)
 refine (HCK.out _ HB0.out).mono ?_
 rintro e w1 ⟨rfl,hb⟩
 have HB1:=Lib.hid (below_up HB0.out hb)
 have c4:=(hb.cell (p:=⟨w.heap.size,4,none⟩) KF.out.1).trans c4
 clear hb HCK HB0
 by_cases he:fe=0
 ·subst he
  by_cases hk:k=10
  ·subst hk
   have HV:Hid (res=0):=by show _=_;rw [HR.out];rfl
   clear HR
   go_wp2
   go_ret
   exact ⟨by rw [HV.out];rfl,HB1.out⟩
  ·have hk':(k == 10)=false:=by simpa using hk
   have HV:Hid (res=7):=by show _=_;rw [HR.out,if_neg (by simp),if_pos hk]
   clear HR
   go_wp2
   go_ret
   exact ⟨by rw [HV.out];rfl,HB1.out⟩
 ·have he':(fe == 0)=false:=by simpa using he
  have HV:Hid (res=fe):=by show _=_;rw [HR.out,if_pos he]
  clear HR
  go_wp2
  go_ret
  exact ⟨by rw [HV.out];rfl,HB1.out⟩
structure ViewAt (w:World) (a:Option Addr) (c:Nat) (xs:List FactV):Prop where
 facts:Facts w a xs
 ok:∀ x,x∈xs→x.ok
 len:xs.length≤1000000
theorem ViewAt.below {w w':World} {a:Option Addr} {c:Nat} {xs:List FactV} (h:ViewAt w a c xs) (hb:Below w.heap.size w w'):ViewAt w' a c xs:=⟨h.facts.below hb,h.ok,h.len⟩
theorem choice_any (xs:List FactV) (a:Option Addr) (c:Nat) (f:FactV) (w:World) (hE:Env w) (hv:ViewAt w a c xs) (hf:f.ok) (hb:f.f.Behind w f.pa f.oa) :
  Calls Tryz.prog 12 #[.slice a xs.length c,.agg f.arr] w fun e w'=>e = .returned (.tuple #[.int .i64 (choiceV (xs.map FactV.f) f.f),.int .i64 (choiceErr (xs.map FactV.f) f.f)])∧Below w.heap.size w w':=by
 have KF:=Lib.hid (Box.new0 w f.arr 30)
 have HB0:=Lib.hid (below_alloc w (.cells f.arr 30))
 have HSZ:Hid ((Tryz.prog.info? 30).map (·.size)=some f.arr.size):=factSize f.f f.pa f.oa f.pc f.oc
 have HVC:Hid (∀ W,Below w.heap.size w W→Calls Tryz.prog 38 #[.slice a xs.length c] W fun e w'=>e = .returned (.int .i64 (vcheck (xs.map FactV.f)))∧Below W.heap.size W w'):=fun W hbw=>viewCheck_any xs a c W (hE.below hbw) hv.len (hv.facts.below hbw) hv.ok
 have HXC:Hid (∀ W,Below w.heap.size w W→Calls Tryz.prog 16 #[.agg f.arr] W fun e w'=>e = .returned (.int .i64 (xcheck f.f))∧Below W.heap.size W w'):=fun W hbw=>xcheck_any f W (hE.below hbw) hf (hb.below hbw)
 have HLA:Hid (∀ W,Below w.heap.size w W→Calls Tryz.prog 39 #[.slice a xs.length c,.agg f.arr] W fun e w'=>e = .returned (.tuple #[.agg (lastArr (wfil xs (fun y=>elects y f.f) 0)),.bool (!(wfil xs (fun y=>elects y f.f) 0).isEmpty)])∧Below W.heap.size W w'):=fun W hbw=>last_any xs a c f W hv.len (hv.facts.below hbw)
 have HCH:=Lib.hid (lastArr_choice xs f.f)
 have HLS:=Lib.hid (lastArr_size (wfil xs (fun y=>elects y f.f) 0))
 have HL1:=Lib.hid (lastArr_one (wfil xs (fun y=>elects y f.f) 0))
 have HER:Hid (choiceErr (xs.map FactV.f) f.f=if vcheck (xs.map FactV.f) ≠ 0∨xcheck f.f ≠ 0 then 1 else 0):=rfl
 have HCV:Hid (choiceV (xs.map FactV.f) f.f=if choiceErr (xs.map FactV.f) f.f ≠ 0 then 0 else chosen (xs.map FactV.f) f.f):=rfl
 clear hE hv hf hb
 generalize choiceV (xs.map FactV.f) f.f=cv at *
 generalize choiceErr (xs.map FactV.f) f.f=er at *
 generalize chosen (xs.map FactV.f) f.f=ch at *
 generalize vcheck (xs.map FactV.f)=ve at *
 generalize xcheck f.f=xe at *
 generalize lastArr (wfil xs (fun y=>elects y f.f) 0)=la at *
 generalize (!(wfil xs (fun y=>elects y f.f) 0).isEmpty)=lf at *
 generalize f.arr=fc at *
 generalize xs.length=n at *
 go_enter Tryz.func12,Tryz.ntmps12
 go_wp2_with fail
 refine (HVC.out _ HB0.out).mono ?_
 rintro e w1 ⟨rfl,hb⟩
 have HB1:=Lib.hid (below_up HB0.out hb)
 have KF:=Lib.hid (KF.out.below hb)
 clear hb HVC HB0
 by_cases h1:ve=0
 ·subst h1
  go_wp2_with (refine wpList_load_rowG (by rfl) 30 _ rfl w.heap.size rfl 30 fc (0,0) _ KF.out.2 Tryz.underlying30 rfl HSZ.out ?_)
  refine (HXC.out _ HB1.out).mono ?_
  rintro e w2 ⟨rfl,hb⟩
  have HB2:=Lib.hid (below_up HB1.out hb)
  have KF:=Lib.hid (KF.out.below hb)
  clear hb HXC HB1
  by_cases h2:xe=0
  ·subst h2
   have HV:Hid (er=0):=by show _=_;rw [HER.out];rfl
   have HW:Hid (cv=ch):=by show _=_;rw [HCV.out,HV.out];rfl
   clear HER HCV
   go_wp2_with (refine wpList_load_row rfl 30 _ rfl w.heap.size rfl 30 fc (0,0) _ KF.out.2 Tryz.underlying30 rfl HSZ.out ?_)
   refine (HLA.out _ HB2.out).mono ?_
   rintro e w3 ⟨rfl,hb⟩
   have HBa:Hid (Below w.heap.size w (w3.alloc (.cells Z21 30))):=below_up (below_up HB2.out hb) (below_alloc _ _)
   have HS3:Hid (w.heap.size≤w3.heap.size):=Nat.le_trans HB2.out.size hb.size
   have HNEW:=Lib.hid (heap_alloc_new w3 (.cells Z21 30))
   have HSL:Hid ((Tryz.prog.info? 30).map (·.size)=some la.size):=by show _=_;rw [HLS.out];exact factInfo21
   have HS21:Hid (Z21.size=la.size):=by show _=_;rw [HLS.out];rfl
   clear hb HLA HB2 KF
   go_wp2_with (refine wpList_store_new rfl 30 _ _ rfl w3.heap.size rfl la rfl HNEW.out HSL.out HS21.out HL1.out ?_;intro w4 k4 b4 _;have HB4:=Lib.hid (HBa.out.trans (b4 _ HS3.out));have c20:=(k4.cell 20).trans HCH.out;clear k4 b4)
   go_ret2
   exact ⟨by rw [HV.out,HW.out];rfl,HB4.out⟩
  ·have h2':(xe == 0)=false:=by simpa using h2
   have HV:Hid (er=1):=by show _=_;rw [HER.out,if_pos (.inr h2)]
   have HW:Hid (cv=0):=by show _=_;rw [HCV.out,HV.out];rfl
   clear HER HCV
   go_wp2
   go_ret2
   exact ⟨by rw [HV.out,HW.out];rfl,HB2.out⟩
 ·have h1':(ve == 0)=false:=by simpa using h1
  have HV:Hid (er=1):=by show _=_;rw [HER.out,if_pos (.inl h1)]
  have HW:Hid (cv=0):=by show _=_;rw [HCV.out,HV.out];rfl
  clear HER HCV
  go_wp2
  go_ret2
  exact ⟨by rw [HV.out,HW.out];rfl,HB1.out⟩
end Go.Proofs.YtbcebibkpfklnaaGreatDoor
