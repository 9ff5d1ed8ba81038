/- Log0 -/
import Derived.Test.YtbcebibkpfklnaaGreatDoorJCheck3
import Derived.Test.YtbcebibkpfklnaaGreatDoorJFactC
import Derived.Test.YtbcebibkpfklnaaGreatDoorJOpen
import Derived.BigQuiet
set_option maxHeartbeats 16000000
set_option maxRecDepth 100000
namespace Go.Proofs.YtbcebibkpfklnaaGreatDoor
open Go Go.RowKit Num
theorem run_loadVar_at {P:Program} (w:World) (b o:Nat) (ty:TypeId) (cs:Array Value) (d:TypeDesc) (hc:∀ j v,cs.toList[j]? = some v→w.cell? ⟨b,o+j,none⟩=some v)
  (hu:P.underlying ty=some d) (hd:(match d with | .struct _ | .array _ _=>true | _=>false)=true) (hi:(P.info? ty).map (·.size)=some cs.size) :
  (loadVar ty ⟨b,o,none⟩).run P w = .ok (.agg cs) w:=by
 have hl:(loadCells ⟨b,o,none⟩ cs.toList.length).run P w = .ok cs.toList.toArray w :=
  run_loadCells_list (P:=P) w ⟨b,o,none⟩ cs.toList (fun j v hv=>by
   have hadd:(⟨b,o,none⟩:Addr).add j=⟨b,o+j,none⟩:=by unfold Addr.add;split <;> simp_all
   rw [hadd]
   exact hc j v hv)
 cases hq:P.info? ty with
 | none=>simp [hq] at hi
 | some i =>
  have hs:i.size=cs.size:=by simpa [hq] using hi
  have hagg:(isAgg ty).run P w = .ok true w:=by
   unfold isAgg
   rw [Sem.run_bind,run_underlying hu w]
   cases d <;> simp_all
  simp only [Array.length_toList,Array.toArray_toList] at hl
  simp [loadVar,Sem.run_bind,hagg,sizeOf,typeInfo,hq,hs,hl]
theorem wpList_load_at {P:Program} {ops:Array Oper} {rest:List Oper} {o:Oper} {a:Act} {w:World} {Q:Exit→Act→World→Prop} (hgd:o.guard=none) (ty:TypeId) (x:Operand) (ho:o.op = .load ty x)
  (b off:Nat) (hx:a.eval x = .pointer (some ⟨b,off,none⟩)) (cs:Array Value) (d:TypeDesc) (hc:∀ j v,cs.toList[j]? = some v→w.cell? ⟨b,off+j,none⟩=some v)
  (hu:P.underlying ty=some d) (hd:(match d with | .struct _ | .array _ _=>true | _=>false)=true) (hi:(P.info? ty).map (·.size)=some cs.size)
  (h:wpList P ops Q rest (a.put o.dst (.agg cs)) w):wpList P ops Q (o :: rest) a w:=by
 refine wpList_plain hgd fun K hK => ?_
 unfold Oper.wp execOp
 simp only [ho,hx,Instr.loadAt,Instr.sureAddr,Sem.run_bind,Sem.run_pure,Result.andThen_ok,run_loadVar_at w b off ty cs d hc hu hd hi]
 exact hK _ _ h
theorem cells_one (x:FactV):x.arr.all (·.oneCell')=true:=by simp [FactV.arr,FactP.cells,Value.oneCell']
structure FactV.ok (x:FactV):Prop where
 small:x.f.small
 cap:x.f.picks.length≤x.pc
def Z21:Array Value:=#[.string ⟨#[]⟩,.int .i64 0,.bool false,.int .i64 0,.int .i64 0,.string ⟨#[]⟩,.string ⟨#[]⟩,.string ⟨#[]⟩,.string ⟨#[]⟩,.string ⟨#[]⟩,.string ⟨#[]⟩,.string ⟨#[]⟩,.string ⟨#[]⟩,.string ⟨#[]⟩,.string ⟨#[]⟩,.string ⟨#[]⟩,.string ⟨#[]⟩,.string ⟨#[]⟩,.slice none 0 0,.slice none 0 0,.int .i64 0]
end Go.Proofs.YtbcebibkpfklnaaGreatDoor
