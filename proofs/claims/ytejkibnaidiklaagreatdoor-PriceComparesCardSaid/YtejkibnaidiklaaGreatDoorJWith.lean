/- OrderIn -/
import Derived.Test.YtejkibnaidiklaaGreatDoorJCheck
set_option maxHeartbeats 16000000
set_option maxRecDepth 100000
namespace Go.Proofs.YtejkibnaidiklaaGreatDoor
open Go
section
variable {n:Nat}{P:Program}{ops:Array Oper}{Q:Exit->Act->World->Prop}{md:Region.Mode}
theorem Ft{F:Fence}(I:Array Bool->Act->World->Prop)(hdone:∀l a w,I l a w->Region.ready md ops l=[]->Q .normal a w)
  (hstep:∀l a w i,I l a w->i∈Region.ready md ops l->wpOpIn F n P ops Q i (I (l.setIfInBounds i true)) a w) :
  ∀fuel l a w,jC ops l<=fuel->I l a w->wpAnyIn F n P md ops Q fuel l a w:=by
 intro fuel
 induction fuel with
 |zero =>
  intro l a w hc hi;have hr:Region.ready md ops l=[]:=by
   cases h:Region.ready md ops l with
   |nil=>rfl
   |cons i r =>
    have:=lW (md:=md) (ops:=ops) (l:=l) (i:=i) (by rw[h];simp);omega
  exact⟨hr,hdone l a w hi hr⟩
 |succ n ih =>
  intro l a w hc hi;refine⟨hdone l a w hi,fun i hr=>wpOpIn_mono (fun a' w' h'=>ih _ a' w' ?_ h') (hstep l a w i hi hr)⟩;have:=lW hr;omega
theorem Ce{F:Fence}{i:Nat}{o:Oper}{K:Act->World->Prop}{a:Act}{w:World}(ho:ops[i]?=some o)(hg:Region.wanted o (yielded ops a.tmps)=true)(h:o.wpIn F n P a w K Q):wpOpIn F n P ops Q i K a w:=by
 unfold wpOpIn;rw[ho];simp only[hg,if_true];exact h
end
section
variable {n:Nat}{P:Program}{Q:Exit->Act->World->Prop}{o:Oper}{K:Act->World->Prop}{a:Act}{w w':World}
theorem Xm{v:Value}(h:(execOp a.eval o).run P w=.ok (.value v) w')(hk:K (a.put o.dst v) w'):o.wpIn Fence.wide n P a w K Q:=by
 refine⟨fun _ _=>trivial,?_⟩;show o.uponIn Fence.wide n P a K Q ((execOp a.eval o).run P w);rw[h];exact hk
end
end Go.Proofs.YtejkibnaidiklaaGreatDoor
