/- Date Hold Ref06 Post Seen -/
import Derived.Test.YtiloklnjjfaagaaGreatDoorUNum
set_option maxHeartbeats 16000000
set_option maxRecDepth 100000
section
namespace Go.Proofs.YtiloklnjjfaagaaGreatDoor.Dt
open Tryz
open Go.RowKit
def bad(n:Int):Bool:=decide (n<0∨120<n)
def aFd(p:Int->Bool)(zs:List Int):Int:=match zs.findIdx? p with|some i=>i|none=>-1
theorem aOk{p:Int->Bool}{zs:List Int}(h:∀k,k<zs.length->p (zs.getD k 0)=false):aFd p zs = -1:=by
 have:zs.findIdx? p=none:=by
  rw[List.findIdx?_eq_none_iff];intro x hx;obtain⟨k,hk,rfl⟩:=List.getElem_of_mem hx;have:=h k hk
  rwa [List.getD_eq_getElem?_getD,Lg hk] at this
 simp[aFd,this]
theorem aOj{p:Int->Bool}{zs:List Int}{i:Nat}(hi:i<zs.length)(h:∀k,k<i->p (zs.getD k 0)=false)(hp:p (zs.getD i 0)=true):aFd p zs=i:=by
 have:zs.findIdx? p=some i:=by
  rw[List.findIdx?_eq_some_iff_getElem];refine⟨hi,by rwa [List.getD_eq_getElem?_getD,Lg hi] at hp,fun j hj=>?_⟩;have:=h j hj;rw[List.getD_eq_getElem?_getD,Lg (by omega)] at this;simpa using this
 simp[aFd,this]
noncomputable def aPe(a c m:Int):Bool:=(Cal.add a m).2==0&&decide ((Cal.add a m).1<c)
end Go.Proofs.YtiloklnjjfaagaaGreatDoor.Dt
end
section
namespace Go.Proofs.YtiloklnjjfaagaaGreatDoor.Ref06
open Tryz
open Go.RowKit Dt
theorem check_no(d:Int)(w:World)(h:d < -25567∨84005<d):
  Calls prog 93 #[.int .i64 d] w fun e w'=>e=.returned (.int .i64 13)/\w=w':=by
 rcases h with h|h
 all_goals
  go_enter func93,ntmps93;go_wp2;go_ret;exact⟨rfl,rfl⟩
theorem check_yes(d:Int)(w:World)(h0:-25567<=d)(h1:d<=84005):
  Calls prog 93 #[.int .i64 d] w fun e w'=>e=.returned (.int .i64 0)/\w=w':=by
 go_enter func93,ntmps93;go_wp2;go_ret;exact⟨rfl,rfl⟩
end Go.Proofs.YtiloklnjjfaagaaGreatDoor.Ref06
end
section
namespace Go.Proofs.YtiloklnjjfaagaaGreatDoor
open Tryz
open Go.RowKit Go.WideShapes Go.ChangeShapes
section
variable {H:Type}{enc:TypeId×Value->H}{P:Program}
theorem sE{f:Func}{s:ChangeSpec}{apart fresh handsOn again:Bool}{W W':World}{args:Array Value}{v:Value}{ds gs:List (DataW H)}{before pa pv:List MemPlace}
  (hW:DataW.Whole enc P f.params.toList s.vars apart W args.toList ds gs before)
  (hres:∀(b:Nat) (sp:Nat->Bool) (hd:Bool),DataW.TrodAll enc P W' b sp hd f.resultTypes.toList (v.resultList f.resultTypes.size) (s.fn H (ds++gs)).results [])
  (hargs:∀sp:Nat->Bool,(∀p∈before,sp p.block=true)->DataW.TrodAll enc P W' 0 sp true f.params.toList args.toList (s.fn H (ds++gs)).args pa)
  (hvars:∀sp:Nat->Bool,(∀p∈before,sp p.block=true)->DataW.TrodVars enc P W' sp s.vars (s.fn H (ds++gs)).vars pv)
  (hps:before=pa++pv) (hb:Below W.heap.size W W')
  (hok:∀(j:Nat) (t:TypeId) (r:Value),f.resultTypes[j]?=some t->(v.resultList f.resultTypes.size)[j]?=some r->Value.okWide P W' .any 0 t r) :
  s.post enc P f apart fresh handsOn again W args v W':=by
 have hlt:∀p∈before,p.block<W.heap.size:=fun p hp=>hW.lt p hp
 have hold:∀p∈before,(fun b=>decide (b<W.heap.size)) p.block=true:=fun p hp=>by simpa using hlt p hp
 refine⟨ds,gs,before,[],pa,pv,hW,hres _ _ _,hargs _ hold,hvars _ hold,World.keptBut_mono (fun p hp=>⟨hp,?_⟩) (hb.frame (·∈before)),fun _=>?_⟩
 ·rw[hps,List.mem_append] at hp;exact Or.inr hp
 ·obtain⟨_,_,_,_,_,hz,hn⟩:=hW;refine⟨hok,_,_,([]++pa)++pv,⟨[]++pa,pv,trodAll_append (hargs _ (fun _ _=>rfl)) (hres _ _ _),hvars _ (fun _ _=>rfl),rfl,?_,?_⟩,?_⟩
  ·intro b off hp;have hin:MemPlace.cell b off∈before:=by rw[hps];simpa using hp
   rw[hb.frozen (hlt _ hin)];exact hz b off hin
  ·intro ha;have:=hn ha;rw[hps] at this;simpa using this
  ·intro p hp _;rw[hps];simpa using hp
end
end Go.Proofs.YtiloklnjjfaagaaGreatDoor
end
section
namespace Go.Proofs.YtiloklnjjfaagaaGreatDoor
open Tryz
open Go.RowKit Go.Maps Go.MapKept Go.ChangeMaps
def nH(ids:List (List UInt8)):List Lit:=ids.map Lit.string
theorem Hg(ids:List (List UInt8)):∀x∈nH ids,WideAt.IsKeyLit x:=by
 intro x hx;obtain⟨l,_,rfl⟩:=List.mem_map.1 hx;exact trivial
theorem dBf(u:DataW Unit)(ids:List (List UInt8))(l:List UInt8)(z:DataW Unit):(setOf u (nH ids)).atKey (.string l) z=if ids.contains l=true then u else z:=by
 rw[<-List.reverse_reverse ids];generalize ids.reverse=rs
 induction rs with
 |nil=>rfl
 |cons x q ih =>
  rw[List.reverse_cons];generalize q.reverse=r at *;unfold nH at *;rw[List.map_append,List.map_singleton,setOf_snoc]
  by_cases h:l=x
  ·subst h;have hk:=Hg r;unfold nH at hk;rw[atKey_put_same (tidy_setOf _ _ hk).isMap (show WideAt.IsKeyLit (.string l) from trivial)];simp
  ·rw[atKey_put_other (by intro e;injection e with e;exact h e),ih];simp[h]
def xY(w:World)(B n:Nat)(ids:List (List UInt8)):Prop :=
 w.ownsMap prog 9 (plainElem (H:=Unit) prog 4) B n (setOf (.lit (.bool true)) (nH ids))
theorem Pr(w:World):xY (w.alloc (.map #[] 0)) w.heap.size 0 []:=World.ownsMap_made _ _ _ _
theorem xY.lt{w:World}{B n:Nat}{ids:List (List UInt8)}(h:xY w B n ids):B<w.heap.size:=World.ownsMap.lt h
theorem xY.below{w w':World}{B n:Nat}{ids:List (List UInt8)}(h:xY w B n ids)(hb:Below w.heap.size w w'):xY w' B n ids:=by
 have hlt:=h.lt;obtain⟨es,clock,hh,F,hs,hD⟩:=h;exact⟨es,clock,(hb.block B hlt).trans hh,F,hs,hD⟩
theorem Pb(w:World):(zeroValue 4).run prog w=.ok (.bool false) w:=by kernel_rfl
theorem St:Keyed prog 9:=string_keyed underlying9
theorem sF{P:Program}{e:TypeId}(he:P.underlying e=some .bool){v:Value}{z:DataW Unit×List MemPlace}(h:plainElem P e v=some z):∃x,v=.bool x/\z=(.lit (.bool x),[]):=by
 unfold plainElem at h;rw[he] at h;cases v <;> simp at h
 exact⟨_,rfl,h.symm⟩
theorem Qm{P:Program}{w:World}{t k e:TypeId}{B n:Nat}{ids:List (List UInt8)}(h:w.ownsMap P k (plainElem (H:=Unit) P e) B n (setOf (.lit (.bool true)) (nH ids)))(hk:P.underlying k=some .string)(ht:P.underlying t=some (.map k e))(he:P.underlying e=some .bool)(hz:(zeroValue e).run P w=.ok (.bool false) w)
  {l:List UInt8}(hl:l.length<=maxLen):(Instr.lookup t (.map (some B)) (.string ⟨l.toArray⟩) false).run P w=.ok (.bool (ids.contains l)) w:=by
 have hs:(⟨l.toArray⟩:ByteArray).size<=maxLen:=by simpa[ByteArray.size] using hl
 obtain⟨v,ps,hrun,hv⟩:=h.lookup (string_keyed hk) ht hz (plainElem_bool he false) (WideMaps.keyOf_string_mk hk hs);obtain⟨b,rfl,hz⟩:=sF he hv;have hb:b=ids.contains l:=by
  injection hz with h1 h2
  rw[dBf] at h1;cases hc:ids.contains l <;> rw[hc] at h1 <;> simp at h1 <;> exact h1
 subst hb;exact hrun
theorem sB{P:Program}(w:World){ops:Array Oper}{rest:List Oper}{o:Oper}{a:Act}{Q:Exit->Act->World->Prop}
  (hg:o.guard=none) (m x:Operand) (t:TypeId) (hop:o.op=Op.lookup t m x false) {k e:TypeId}{B n:Nat}{ids:List (List UInt8)}(hm:a.eval m=.map (some B)) (h:w.ownsMap P k (plainElem (H:=Unit) P e) B n (setOf (.lit (.bool true)) (nH ids)))
  (hk:P.underlying k=some .string) (ht:P.underlying t=some (.map k e)) (he:P.underlying e=some .bool) (hz:(zeroValue e).run P w=.ok (.bool false) w)
  (l:List UInt8) (hl:l.length<=maxLen) (hx:a.eval x=.string ⟨l.toArray⟩)
  (hK:wpList P ops Q rest (a.put o.dst (.bool (ids.contains l))) w):wpList P ops Q (o::rest) a w:=by
 refine wpList_plain hg fun K' hK'=>?_
 have hrun:=Qm h hk ht he hz hl;generalize ids.contains l=r at *;unfold Oper.wp;simp[execOp,hop,hm,hx,hrun,Result.andThen];exact hK' _ _ hK
theorem sA(w:World){ops:Array Oper}{rest:List Oper}{o:Oper}{a:Act}{Q:Exit->Act->World->Prop}
  (hg:o.guard=none) (m x:Operand) (hop:o.op=Op.lookup 113 m x false) (B n:Nat) (ids:List (List UInt8)) (hm:a.eval m=.map (some B)) (hown:xY w B n ids)
  (l:List UInt8) (hl:l.length<=maxLen) (hx:a.eval x=.string ⟨l.toArray⟩)
  (hK:wpList prog ops Q rest (a.put o.dst (.bool (ids.contains l))) w):wpList prog ops Q (o::rest) a w :=
 sB w hg m x _ hop hm hown underlying9 underlying113 underlying4 (Pb w) l hl hx hK
theorem aY6(w:World){ops:Array Oper}{rest:List Oper}{o:Oper}{a:Act}{Q:Exit->Act->World->Prop}
  (hg:o.guard=none) (m x v:Operand) (hop:o.op=Op.mapUpdate 113 m x v) (B n:Nat) (ids:List (List UInt8)) (hm:a.eval m=.map (some B)) (hown:xY w B n ids) (hn:n<maxLen)
  (l:List UInt8) (hl:l.length<=maxLen) (hx:a.eval x=.string ⟨l.toArray⟩) (hv:a.eval v=.bool true)
  (hK:∀w',xY w' B (n+1) (ids ++ [l])->w.grownBy w' (some B)->wpList prog ops Q rest (a.put o.dst undef) w'):wpList prog ops Q (o::rest) a w:=by
 have hs:(⟨l.toArray⟩:ByteArray).size<=maxLen:=by simpa[ByteArray.size] using hl
 refine wpList_mapUpdate_own w hg m x v 113 hop 9 4 St underlying113 _ B n _ hm hown hn _ _ _ hx hv (WideMaps.keyOf_string_mk underlying9 hs) _ [] (plainElem_bool underlying4 true) fun w' h1 h2=>hK w' ?_ h2
 unfold xY nH;rw[List.map_append,List.map_singleton,setOf_snoc];exact h1
end Go.Proofs.YtiloklnjjfaagaaGreatDoor
end
