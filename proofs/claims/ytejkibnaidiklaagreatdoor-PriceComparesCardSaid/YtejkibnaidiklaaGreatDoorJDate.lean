/- Date Ref06 Hold Post Seen -/
import Derived.Test.YtejkibnaidiklaaGreatDoorJNum
set_option maxHeartbeats 16000000
set_option maxRecDepth 100000
section
namespace Go.Proofs.YtejkibnaidiklaaGreatDoor.Dt
open Tryz
open Go.RowKit
theorem aN6(y:Int)(w:World)(h0:0<=y)(h1:y<=100000):
  Calls prog 191 #[.int .i64 y] w fun e w'=>e=.returned (.bool (Cal.leap y))/\w=w':=by
 go_enter func191,ntmps191;go_wp2
 all_goals
  go_ret;exact⟨dG (by simp[Cal.leap, *]),rfl⟩
theorem aN4(y:Int)(w:World)(h0:0<=y)(h1:y<=100000):
  Calls prog 135 #[.int .i64 y,.int .i64 2] w fun e w'=>e=.returned (.int .i64 (Cal.dim y 2))/\Below w.heap.size w w':=by
 go_enter func135,ntmps135;go_wp2_with (go_at_call 191;refine(aN6 _ _ (by omega) (by omega)).mono ?_;rintro e w' ⟨rfl,rfl⟩)
 all_goals
  go_ret;exact⟨gG (by simp[Cal.dim,Cal.lp, *]),(Br _ _).alloc (Nl _) _⟩
theorem aN5(y:Int)(w:World):
  Calls prog 135 #[.int .i64 y,.int .i64 1] w fun e w'=>e=.returned (.int .i64 (Cal.dim y 1))/\Below w.heap.size w w':=by
 go_enter func135,ntmps135;go_wp2;go_ret;exact⟨gG (by simp[Cal.dim]),(Br _ _).alloc (Nl _) _⟩
theorem aN3(y:Int)(w:World):
  Calls prog 135 #[.int .i64 y,.int .i64 3] w fun e w'=>e=.returned (.int .i64 (Cal.dim y 3))/\Below w.heap.size w w':=by
 go_enter func135,ntmps135;go_wp2;go_ret;exact⟨gG (by simp[Cal.dim]),(Br _ _).alloc (Nl _) _⟩
theorem aN2(y:Int)(w:World):
  Calls prog 135 #[.int .i64 y,.int .i64 4] w fun e w'=>e=.returned (.int .i64 (Cal.dim y 4))/\Below w.heap.size w w':=by
 go_enter func135,ntmps135;go_wp2;go_ret;exact⟨gG (by simp[Cal.dim]),(Br _ _).alloc (Nl _) _⟩
theorem aN1(y:Int)(w:World):
  Calls prog 135 #[.int .i64 y,.int .i64 5] w fun e w'=>e=.returned (.int .i64 (Cal.dim y 5))/\Below w.heap.size w w':=by
 go_enter func135,ntmps135;go_wp2;go_ret;exact⟨gG (by simp[Cal.dim]),(Br _ _).alloc (Nl _) _⟩
theorem aN0(y:Int)(w:World):
  Calls prog 135 #[.int .i64 y,.int .i64 6] w fun e w'=>e=.returned (.int .i64 (Cal.dim y 6))/\Below w.heap.size w w':=by
 go_enter func135,ntmps135;go_wp2;go_ret;exact⟨gG (by simp[Cal.dim]),(Br _ _).alloc (Nl _) _⟩
theorem aNz(y:Int)(w:World):
  Calls prog 135 #[.int .i64 y,.int .i64 7] w fun e w'=>e=.returned (.int .i64 (Cal.dim y 7))/\Below w.heap.size w w':=by
 go_enter func135,ntmps135;go_wp2;go_ret;exact⟨gG (by simp[Cal.dim]),(Br _ _).alloc (Nl _) _⟩
theorem aNy(y:Int)(w:World):
  Calls prog 135 #[.int .i64 y,.int .i64 8] w fun e w'=>e=.returned (.int .i64 (Cal.dim y 8))/\Below w.heap.size w w':=by
 go_enter func135,ntmps135;go_wp2;go_ret;exact⟨gG (by simp[Cal.dim]),(Br _ _).alloc (Nl _) _⟩
theorem aNx(y:Int)(w:World):
  Calls prog 135 #[.int .i64 y,.int .i64 9] w fun e w'=>e=.returned (.int .i64 (Cal.dim y 9))/\Below w.heap.size w w':=by
 go_enter func135,ntmps135;go_wp2;go_ret;exact⟨gG (by simp[Cal.dim]),(Br _ _).alloc (Nl _) _⟩
theorem aNg(y:Int)(w:World):
  Calls prog 135 #[.int .i64 y,.int .i64 10] w fun e w'=>e=.returned (.int .i64 (Cal.dim y 10))/\Below w.heap.size w w':=by
 go_enter func135,ntmps135;go_wp2;go_ret;exact⟨gG (by simp[Cal.dim]),(Br _ _).alloc (Nl _) _⟩
theorem aNf(y:Int)(w:World):
  Calls prog 135 #[.int .i64 y,.int .i64 11] w fun e w'=>e=.returned (.int .i64 (Cal.dim y 11))/\Below w.heap.size w w':=by
 go_enter func135,ntmps135;go_wp2;go_ret;exact⟨gG (by simp[Cal.dim]),(Br _ _).alloc (Nl _) _⟩
theorem aNe(y:Int)(w:World):
  Calls prog 135 #[.int .i64 y,.int .i64 12] w fun e w'=>e=.returned (.int .i64 (Cal.dim y 12))/\Below w.heap.size w w':=by
 go_enter func135,ntmps135;go_wp2;go_ret;exact⟨gG (by simp[Cal.dim]),(Br _ _).alloc (Nl _) _⟩
theorem aMc(y m:Int)(w:World)(h0:0<=y)(h1:y<=100000)(h2:1<=m)(h3:m<=12):
  Calls prog 135 #[.int .i64 y,.int .i64 m] w fun e w'=>e=.returned (.int .i64 (Cal.dim y m))/\Below w.heap.size w w' :=
 Cal.months (P:=fun m=>Calls prog 135 #[.int .i64 y,.int .i64 m] w fun e w'=>e=.returned (.int .i64 (Cal.dim y m))/\Below w.heap.size w w') m h2 h3
  (aN5 y w) (aN4 y w h0 h1) (aN3 y w) (aN2 y w) (aN1 y w) (aN0 y w) (aNz y w) (aNy y w) (aNx y w) (aNg y w) (aNf y w) (aNe y w)
theorem aNj(y:Int)(w:World)(h0:1<=y)(h1:y<=100000):
  Calls prog 136 #[.int .i64 y] w fun e w'=>e=.returned (.int .i64 (Cal.dby y))/\w=w':=by
 go_enter func136,ntmps136;go_wp2;go_ret;exact⟨gG (by unfold Cal.dby;omega),rfl⟩
theorem aPd(y m d:Int)(w:World)(h:Cal.Valid y m d):
  Calls prog 85 #[.int .i64 y,.int .i64 m,.int .i64 d] w fun e w'=>e=.returned (.tuple #[.int .i64 (Cal.num y m d-25567),.int .i64 0])/\Below w.heap.size w w':=by
 obtain⟨h1,h2,h3,h4,h5,h6⟩:=h;have hd:=Cal.dim_bd y m;have hb:=Cal.dby_bd y h1 (by omega);go_enter func85,ntmps85;go_wp2_with (first|(go_at_call 135;refine(aMc _ _ _ (by omega) (by omega) (by omega) (by omega)).mono ?_;rintro e w1 ⟨rfl,hb1⟩)|(go_at_call 136;refine(aNj _ _ (by omega) (by omega)).mono ?_;rintro e w' ⟨rfl,rfl⟩));go_loopw [8,9] (fun n i wr=>∃k:Int,1<=k/\k<=m/\i=.int .i64 k/\n=.int .i64 (Cal.dby y+Cal.cum y k+d-1)/\Below w.heap.size w wr) (fun _ i _=>(12-intOf i).toNat)
 case atStart=>exact⟨1,by omega,by omega,rfl,by rw[Cal.cum_1,Int.add_zero],hb1⟩
 case round =>
  obtain⟨k,hk1,hk2,rfl,rfl,hbr⟩:=hrel;have cb:=Cal.cum_bd y k hk1 (by omega);have db:=Cal.dim_bd y k
  by_cases hlt:k<m
  ·have cs:=Hd (Cal.cum_succ y k hk1 (by omega));go_wp2_with (go_at_call 135;refine(aMc _ _ _ (by omega) (by omega) (by omega) (by omega)).mono ?_;rintro e w2 ⟨rfl,hb2⟩);go_roundw
   case rel=>exact⟨k+1,by omega,by omega,rfl,by rw[cs.out];go_num,aA hbr hb2⟩
   case measure=>simp[intOf];omega
  ·have hkm:k=m:=by omega
   subst hkm;go_wp2;go_ret2;exact⟨by rw[show Cal.num y k d=Cal.dby y+Cal.cum y k+d-1 from rfl];simp;omega,hbr⟩
end Go.Proofs.YtejkibnaidiklaaGreatDoor.Dt
end
section
namespace Go.Proofs.YtejkibnaidiklaaGreatDoor.Dt
open Tryz
open Go.RowKit
def bad(n:Int):Bool:=decide (n<0∨120<n)
def aFd(p:Int->Bool)(zs:List Int):Int:=match zs.findIdx? p with|some i=>i|none=>-1
end Go.Proofs.YtejkibnaidiklaaGreatDoor.Dt
end
section
namespace Go.Proofs.YtejkibnaidiklaaGreatDoor
open Tryz
open Go.RowKit Go.WideShapes Go.ChangeShapes
section
variable {H:Type}{enc:TypeId×Value->H}{P:Program}
theorem sE{f:Func}{s:ChangeSpec}{apart fresh handsOn again:Bool}{W W':World}{args:Array Value}{v:Value}{ds gs:List (DataW H)}{before pa pv:List MemPlace}
  (hW:DataW.Whole enc P f.params.toList s.vars apart W args.toList ds gs before)
  (hres:∀(b:Nat) (sp:Nat->Bool) (hd:Bool),DataW.TrodAll enc P W' b sp hd f.resultTypes.toList (v.resultList f.resultTypes.size) (s.fn H (ds++gs)).results [])
  (hargs:∀sp:Nat->Bool,(∀p∈before,sp p.block=true)->DataW.TrodAll enc P W' 0 sp true f.params.toList args.toList (s.fn H (ds++gs)).args pa)
  (hvars:∀sp:Nat->Bool,(∀p∈before,sp p.block=true)->DataW.TrodVars enc P W' sp s.vars (s.fn H (ds++gs)).vars pv)
  (hps:before=pa++pv) (hb:Below W.heap.size W W')
  (hok:∀(j:Nat) (t:TypeId) (r:Value),f.resultTypes[j]?=some t->(v.resultList f.resultTypes.size)[j]?=some r->Value.okWide P W' .any 0 t r) :
  s.post enc P f apart fresh handsOn again W args v W':=by
 have hlt:∀p∈before,p.block<W.heap.size:=fun p hp=>hW.lt p hp
 have hold:∀p∈before,(fun b=>decide (b<W.heap.size)) p.block=true:=fun p hp=>by simpa using hlt p hp
 refine⟨ds,gs,before,[],pa,pv,hW,hres _ _ _,hargs _ hold,hvars _ hold,World.keptBut_mono (fun p hp=>⟨hp,?_⟩) (hb.frame (·∈before)),fun _=>?_⟩
 ·rw[hps,List.mem_append] at hp;exact Or.inr hp
 ·obtain⟨_,_,_,_,_,hz,hn⟩:=hW;refine⟨hok,_,_,([]++pa)++pv,⟨[]++pa,pv,trodAll_append (hargs _ (fun _ _=>rfl)) (hres _ _ _),hvars _ (fun _ _=>rfl),rfl,?_,?_⟩,?_⟩
  ·intro b off hp;have hin:MemPlace.cell b off∈before:=by rw[hps];simpa using hp
   rw[hb.frozen (hlt _ hin)];exact hz b off hin
  ·intro ha;have:=hn ha;rw[hps] at this;simpa using this
  ·intro p hp _;rw[hps];simpa using hp
end
end Go.Proofs.YtejkibnaidiklaaGreatDoor
end
section
namespace Go.Proofs.YtejkibnaidiklaaGreatDoor
open Tryz
open Go.RowKit Go.Maps Go.MapKept Go.ChangeMaps
def nH(ids:List (List UInt8)):List Lit:=ids.map Lit.string
theorem Hg(ids:List (List UInt8)):∀x∈nH ids,WideAt.IsKeyLit x:=by
 intro x hx;obtain⟨l,_,rfl⟩:=List.mem_map.1 hx;exact trivial
theorem Ix(u:DataW Unit)(ids:List (List UInt8))(l:List UInt8)(z:DataW Unit):(setOf u (nH ids)).atKey (.string l) z=if ids.contains l=true then u else z:=by
 rw[<-List.reverse_reverse ids];generalize ids.reverse=rs
 induction rs with
 |nil=>rfl
 |cons x q ih =>
  rw[List.reverse_cons];generalize q.reverse=r at *;unfold nH at *;rw[List.map_append,List.map_singleton,setOf_snoc]
  by_cases h:l=x
  ·subst h;have hk:=Hg r;unfold nH at hk;rw[atKey_put_same (tidy_setOf _ _ hk).isMap (show WideAt.IsKeyLit (.string l) from trivial)];simp
  ·rw[atKey_put_other (by intro e;injection e with e;exact h e),ih];simp[h]
def xY(w:World)(B n:Nat)(ids:List (List UInt8)):Prop :=
 w.ownsMap prog 9 (plainElem (H:=Unit) prog 4) B n (setOf (.lit (.bool true)) (nH ids))
theorem Pr(w:World):xY (w.alloc (.map #[] 0)) w.heap.size 0 []:=World.ownsMap_made _ _ _ _
theorem xY.lt{w:World}{B n:Nat}{ids:List (List UInt8)}(h:xY w B n ids):B<w.heap.size:=World.ownsMap.lt h
theorem xY.below{w w':World}{B n:Nat}{ids:List (List UInt8)}(h:xY w B n ids)(hb:Below w.heap.size w w'):xY w' B n ids:=by
 have hlt:=h.lt;obtain⟨es,clock,hh,F,hs,hD⟩:=h;exact⟨es,clock,(hb.block B hlt).trans hh,F,hs,hD⟩
theorem Pb(w:World):(zeroValue 4).run prog w=.ok (.bool false) w:=by kernel_rfl
theorem St:Keyed prog 9:=string_keyed underlying9
theorem sF{P:Program}{e:TypeId}(he:P.underlying e=some .bool){v:Value}{z:DataW Unit×List MemPlace}(h:plainElem P e v=some z):∃x,v=.bool x/\z=(.lit (.bool x),[]):=by
 unfold plainElem at h;rw[he] at h;cases v <;> simp at h
 exact⟨_,rfl,h.symm⟩
theorem Qm{P:Program}{w:World}{t k e:TypeId}{B n:Nat}{ids:List (List UInt8)}(h:w.ownsMap P k (plainElem (H:=Unit) P e) B n (setOf (.lit (.bool true)) (nH ids)))(hk:P.underlying k=some .string)(ht:P.underlying t=some (.map k e))(he:P.underlying e=some .bool)(hz:(zeroValue e).run P w=.ok (.bool false) w)
  {l:List UInt8}(hl:l.length<=maxLen):(Instr.lookup t (.map (some B)) (.string ⟨l.toArray⟩) false).run P w=.ok (.bool (ids.contains l)) w:=by
 have hs:(⟨l.toArray⟩:ByteArray).size<=maxLen:=by simpa[ByteArray.size] using hl
 obtain⟨v,ps,hrun,hv⟩:=h.lookup (string_keyed hk) ht hz (plainElem_bool he false) (WideMaps.keyOf_string_mk hk hs);obtain⟨b,rfl,hz⟩:=sF he hv;have hb:b=ids.contains l:=by
  injection hz with h1 h2
  rw[Ix] at h1;cases hc:ids.contains l <;> rw[hc] at h1 <;> simp at h1 <;> exact h1
 subst hb;exact hrun
theorem sB{P:Program}(w:World){ops:Array Oper}{rest:List Oper}{o:Oper}{a:Act}{Q:Exit->Act->World->Prop}
  (hg:o.guard=none) (m x:Operand) (t:TypeId) (hop:o.op=Op.lookup t m x false) {k e:TypeId}{B n:Nat}{ids:List (List UInt8)}(hm:a.eval m=.map (some B)) (h:w.ownsMap P k (plainElem (H:=Unit) P e) B n (setOf (.lit (.bool true)) (nH ids)))
  (hk:P.underlying k=some .string) (ht:P.underlying t=some (.map k e)) (he:P.underlying e=some .bool) (hz:(zeroValue e).run P w=.ok (.bool false) w)
  (l:List UInt8) (hl:l.length<=maxLen) (hx:a.eval x=.string ⟨l.toArray⟩)
  (hK:wpList P ops Q rest (a.put o.dst (.bool (ids.contains l))) w):wpList P ops Q (o::rest) a w:=by
 refine wpList_plain hg fun K' hK'=>?_
 have hrun:=Qm h hk ht he hz hl;generalize ids.contains l=r at *;unfold Oper.wp;simp[execOp,hop,hm,hx,hrun,Result.andThen];exact hK' _ _ hK
theorem sA(w:World){ops:Array Oper}{rest:List Oper}{o:Oper}{a:Act}{Q:Exit->Act->World->Prop}
  (hg:o.guard=none) (m x:Operand) (hop:o.op=Op.lookup 121 m x false) (B n:Nat) (ids:List (List UInt8)) (hm:a.eval m=.map (some B)) (hown:xY w B n ids)
  (l:List UInt8) (hl:l.length<=maxLen) (hx:a.eval x=.string ⟨l.toArray⟩)
  (hK:wpList prog ops Q rest (a.put o.dst (.bool (ids.contains l))) w):wpList prog ops Q (o::rest) a w :=
 sB w hg m x _ hop hm hown underlying9 underlying121 underlying4 (Pb w) l hl hx hK
theorem aY6(w:World){ops:Array Oper}{rest:List Oper}{o:Oper}{a:Act}{Q:Exit->Act->World->Prop}
  (hg:o.guard=none) (m x v:Operand) (hop:o.op=Op.mapUpdate 121 m x v) (B n:Nat) (ids:List (List UInt8)) (hm:a.eval m=.map (some B)) (hown:xY w B n ids) (hn:n<maxLen)
  (l:List UInt8) (hl:l.length<=maxLen) (hx:a.eval x=.string ⟨l.toArray⟩) (hv:a.eval v=.bool true)
  (hK:∀w',xY w' B (n+1) (ids ++ [l])->w.grownBy w' (some B)->wpList prog ops Q rest (a.put o.dst undef) w'):wpList prog ops Q (o::rest) a w:=by
 have hs:(⟨l.toArray⟩:ByteArray).size<=maxLen:=by simpa[ByteArray.size] using hl
 refine wpList_mapUpdate_own w hg m x v 121 hop 9 4 St underlying121 _ B n _ hm hown hn _ _ _ hx hv (WideMaps.keyOf_string_mk underlying9 hs) _ [] (plainElem_bool underlying4 true) fun w' h1 h2=>hK w' ?_ h2
 unfold xY nH;rw[List.map_append,List.map_singleton,setOf_snoc];exact h1
end Go.Proofs.YtejkibnaidiklaaGreatDoor
end
