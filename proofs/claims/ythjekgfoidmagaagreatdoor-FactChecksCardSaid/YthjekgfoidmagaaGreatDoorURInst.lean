/- InsP RInsP13 RInst13 RSameG13 -/
import Derived.Test.YthjekgfoidmagaaGreatDoorUInst
import Derived.Lib.AppendZeros
import Derived.StillTailTactics
set_option maxHeartbeats 16000000
set_option maxRecDepth 100000
namespace Go.Proofs.YthjekgfoidmagaaGreatDoor
open Go.Proofs.Tryz
section
open Go.RowKit Num
def bWw:List (List UInt8)->List UInt8->List (List UInt8)
 | [],s=>[s]
 |x::r,s=>if x<s then x::bWw r s else if x=s then x::r else s::x::r
theorem bW4{l:List (List UInt8)}{s y:List UInt8}:y∈bWw l s↔y=s∨y∈l:=by
 induction l with
 |nil=>simp[bWw]
 |cons x r ih =>
  unfold bWw;split
  ·rw[List.mem_cons,ih,List.mem_cons];constructor
   ·rintro(h|h|h)
    ·exact .inr (.inl h)
    ·exact .inl h
    ·exact .inr (.inr h)
   ·rintro(h|h|h)
    ·exact .inr (.inl h)
    ·exact .inl h
    ·exact .inr (.inr h)
  ·split
   ·rename_i h;subst h;simp
   ·simp
theorem bXb{x s:List UInt8}(h1:¬ x<s)(h2:x≠s):s<x:=by
 by_cases h:s<x
 ·exact h
 ·exact absurd (List.le_antisymm h h1) h2
theorem bXg{l:List (List UInt8)}{s:List UInt8}(h:l.Pairwise (· < ·)):(bWw l s).Pairwise (· < ·):=by
 induction l with
 |nil=>simp[bWw]
 |cons x r ih =>
  obtain⟨h1,h2⟩:=List.pairwise_cons.1 h;unfold bWw;split
  ·rename_i hx;refine List.pairwise_cons.2 ⟨fun y hy=>?_,ih h2⟩;rcases bW4.1 hy with rfl|hy
   ·exact hx
   ·exact h1 y hy
  ·split
   ·exact h
   ·rename_i h3 h4;have h5:=bXb h3 h4;refine List.pairwise_cons.2 ⟨fun y hy=>?_,h⟩;rcases List.mem_cons.1 hy with rfl|hy
    ·exact h5
    ·exact List.lt_trans h5 (h1 y hy)
theorem bXs{A:List (List UInt8)}:∀ {B:List (List UInt8)},A.Pairwise (· < ·)->B.Pairwise (· < ·)->(∀x,x∈A↔x∈B)->A=B:=by
 induction A with
 |nil =>
  intro B _ _ h;cases B with
  |nil=>rfl
  |cons b B=>exact absurd ((h b).2 (by simp)) (by simp)
 |cons a A ih =>
  intro B hA hB h;cases B with
  |nil=>exact absurd ((h a).1 (by simp)) (by simp)
  |cons b B =>
   obtain⟨a1,a2⟩:=List.pairwise_cons.1 hA;obtain⟨b1,b2⟩:=List.pairwise_cons.1 hB;have hab:a=b:=by
    rcases List.mem_cons.1 ((h a).1 (by simp)) with e|e
    ·exact e
    ·rcases List.mem_cons.1 ((h b).2 (by simp)) with e2|e2
     ·exact e2.symm
     ·exact absurd (List.lt_trans (b1 a e) (a1 b e2)) (List.lt_irrefl _)
   subst hab;rw[ih a2 b2 fun x=>?_];constructor
   ·intro hx;rcases List.mem_cons.1 ((h x).1 (List.mem_cons_of_mem _ hx)) with e|e
    ·subst e;exact absurd (a1 x hx) (List.lt_irrefl _)
    ·exact e
   ·intro hx;rcases List.mem_cons.1 ((h x).2 (List.mem_cons_of_mem _ hx)) with e|e
    ·subst e;exact absurd (b1 x hx) (List.lt_irrefl _)
    ·exact e
end
section
open Go
theorem bX7{s:List UInt8}:∀ {l r:List (List UInt8)},(∀x,x∈l->x<s)->bWw (l++r) s=l++bWw r s
 | [],r,_=>rfl
 |x::l,r,h=>by
  show bWw (x::(l++r)) s=_;rw[show bWw (x::(l++r)) s=if x<s then x::bWw (l++r) s else if x=s then x::(l++r) else s::x::(l++r) from rfl,if_pos (h x List.mem_cons_self),bX7 fun y hy=>h y (List.mem_cons_of_mem _ hy)];rfl
theorem bYb{s y:List UInt8}:∀ {l:List (List UInt8)},(∃x,x∈l/\¬ x<s)->bWw (l ++ [y]) s=bWw l s ++ [y]
 | [],h=>by obtain⟨x,hx,_⟩:=h;cases hx
 |x::l,h=>by
  have e:bWw (x::l ++ [y]) s=if x<s then x::bWw (l ++ [y]) s else if x=s then x::(l ++ [y]) else s::x::(l ++ [y]):=rfl
  have e2:bWw (x::l) s=if x<s then x::bWw l s else if x=s then x::l else s::x::l:=rfl
  rw[e,e2]
  by_cases hx:x<s
  ·rw[if_pos hx,if_pos hx,bYb]
   ·rfl
   ·obtain⟨z,hz,hn⟩:=h;rcases List.mem_cons.1 hz with rfl|hz
    ·exact absurd hx hn
    ·exact⟨z,hz,hn⟩
  ·rw[if_neg hx,if_neg hx];split <;> rfl
def bWc(l:List (List UInt8))(s:List UInt8):List (List UInt8):=if s=[] then l else bWw l s
theorem bW7{l:List (List UInt8)}{s x:List UInt8}:x∈bWc l s↔(x=s/\s ≠ [])∨x∈l:=by
 unfold bWc
 by_cases h:s=[]
 ·rw[if_pos h];simp[h]
 ·rw[if_neg h,bW4];simp[h]
theorem bXd{l:List (List UInt8)}{s:List UInt8}(h:l.Pairwise (· < ·)):(bWc l s).Pairwise (· < ·):=by
 unfold bWc;split
 ·exact h
 ·exact bXg h
theorem bYe(l:List (List UInt8))(s:List UInt8):(bWw l s).length<=l.length+1:=by
 induction l with
 |nil=>simp[bWw]
 |cons x r ih =>
  unfold bWw;split
  ·simp only[List.length_cons];omega
  ·split <;> simp
theorem bXc(l:List (List UInt8))(s:List UInt8):(bWc l s).length<=l.length+1:=by
 unfold bWc;split
 ·omega
 ·exact bYe l s
def bWq(f:aE)(k:Nat):List (List UInt8):=((f.options.take k).map (·.other)).foldl bWc (if f.kind=9∨f.kind=12 then bWc (bWc [] f.ins) f.other else bWc [] f.ins)
theorem bYg:∀(r:List (List UInt8)) {l:List (List UInt8)},l.Pairwise (· < ·)->(r.foldl bWc l).Pairwise (· < ·)
 | [],_,h=>h
 |_::r,_,h=>bYg r (bXd h)
theorem bYf{x:List UInt8}:∀(r:List (List UInt8)) {l:List (List UInt8)},x∈r.foldl bWc l↔(x∈r/\x ≠ [])∨x∈l
 | [],_=>by simp
 |s::r,l=>by
  rw[List.foldl_cons,bYf r,bW7,List.mem_cons];constructor
  ·rintro(⟨h1,h2⟩|⟨rfl,h⟩|h)
   ·exact .inl ⟨.inr h1,h2⟩
   ·exact .inl ⟨.inl rfl,h⟩
   ·exact .inr h
  ·rintro(⟨rfl|h1,h2⟩|h)
   ·exact .inr (.inl ⟨rfl,h2⟩)
   ·exact .inl ⟨h1,h2⟩
   ·exact .inr (.inr h)
theorem bY3(f:aE)(k:Nat):(bWq f k).Pairwise (· < ·):=by
 unfold bWq;apply bYg;split
 ·exact bXd (bXd List.Pairwise.nil)
 ·exact bXd List.Pairwise.nil
theorem bYh{f:aE}{k:Nat}{o:eJ}(h:f.options[k]?=some o):bWq f (k+1)=bWc (bWq f k) o.other:=by
 unfold bWq;rw[List.take_add_one,h];simp
theorem bYd(f:aE)(k:Nat):(bWq f k).length<=k+2:=by
 induction k with
 |zero =>
  show (if f.kind=9∨f.kind=12 then bWc (bWc [] f.ins) f.other else bWc [] f.ins).length<=2;have h1:=bXc [] f.ins;have h2:=bXc (bWc [] f.ins) f.other;simp only[List.length_nil] at h1;split <;> omega
 |succ k ih =>
  cases h:f.options[k]? with
  |none =>
   have:bWq f (k+1)=bWq f k:=by unfold bWq;rw[List.take_add_one,h];simp
   rw[this];omega
  |some o =>
   rw[bYh h];have:=bXc (bWq f k) o.other;omega
theorem bYq(f:aE):bWq f f.options.length=bPk f:=by
 refine bXs (bY3 f _) (show (bPk f).Pairwise (· < ·) from bCa (bBq _)) fun x=>?_
 rw[bSn,bTy];unfold bWq;rw[bYf,List.take_length,List.mem_map]
 by_cases h:f.kind=9∨f.kind=12
 ·rw[if_pos h,bW7,bW7];simp only[List.not_mem_nil,or_false];constructor
  ·rintro(⟨⟨o,ho,e⟩,h2⟩|⟨rfl,h2⟩|⟨rfl,h2⟩)
   ·exact⟨.inr (.inr ⟨o,ho,e⟩),h2⟩
   ·exact⟨.inr (.inl ⟨h,rfl⟩),h2⟩
   ·exact⟨.inl rfl,h2⟩
  ·rintro⟨rfl|⟨_,rfl⟩|⟨o,ho,e⟩,h2⟩
   ·exact .inr (.inr ⟨rfl,h2⟩)
   ·exact .inr (.inl ⟨rfl,h2⟩)
   ·exact .inl ⟨⟨o,ho,e⟩,h2⟩
 ·rw[if_neg h,bW7];simp only[List.not_mem_nil,or_false];constructor
  ·rintro(⟨⟨o,ho,e⟩,h2⟩|⟨rfl,h2⟩)
   ·exact⟨.inr (.inr ⟨o,ho,e⟩),h2⟩
   ·exact⟨.inl rfl,h2⟩
  ·rintro⟨rfl|⟨hk,_⟩|⟨o,ho,e⟩,h2⟩
   ·exact .inr ⟨rfl,h2⟩
   ·exact absurd hk h
   ·exact .inl ⟨⟨o,ho,e⟩,h2⟩
end
section
open Go Go.RowKit Num
theorem bYj(l:List (List UInt8))(x:List UInt8):iS (l ++ [x])=iS l ++ [.string ⟨x.toArray⟩]:=by unfold iS;rw[List.map_append];rfl
theorem bWr{ops:Array Oper}{rest:List Oper}{o:Oper}{a:Act}{Q:Exit->Act->World->Prop}{w0 W:World}(hgd:o.guard=none)(sO xO:Operand)(ho:o.op=.call { callee:=.builtin .append,args:=#[sO,xO],argTypes:=#[36,36] })(base:Nat)(v:Value)(n:Nat)(ls:List (List UInt8))(hs:a.eval sO=v)(hown:W.ownsRow base 9 1 v n (iS ls))(x:List UInt8)(hx:a.eval xO=.slice (some ⟨W.heap.size,0,none⟩) 1 1)(hn:n<=100000)(hb:Below base w0 W)(hbs:base<=W.heap.size)
  (h:∀v' w',w'.ownsRow base 9 1 v' (n+1) (iS (ls ++ [x]))->Below base w0 w'->wpList prog ops Q rest (a.put o.dst v') w') :
  wpList prog ops Q (o::rest) a (W.alloc (.cells #[.string ⟨x.toArray⟩] 9)):=by
 obtain⟨i0,hi,hz0,hz1,hz2⟩:=info_parts bCu;refine wpList_append_own_at _ hgd sO xO 36 ho base 9 i0 (.string ⟨#[]⟩) 1 16 underlying36 hi hz0 hz1 hz2 rfl (by decide) v n (iS ls) hs (hown.alloc _) ⟨W.heap.size,0,none⟩ 1 1 [.string ⟨x.toArray⟩] hx rfl (aUb W #[.string ⟨x.toArray⟩] 9) (by simp[Value.oneCell']) (by unfold maxLen;omega) (by omega) (by rw[World.size_alloc];omega) ?_;intro v' w' ho' hg _ _;refine h v' w' (by rw[bYj];exact ho') ?_;exact(hb.trans ((aB W _).mono hbs)).grown hg (by rw[World.size_alloc];omega) (fun k hk=>(hown.lt k hk).1)
def bWm(l:List (List UInt8))(s:List UInt8)(k:Nat)(d:Bool):List (List UInt8):=if d=true then bWw (l.take k) s else l.take k
def bWv(l:List (List UInt8))(s:List UInt8)(k:Nat)(d:Bool):Prop:=if d=true then ∃x,x∈l.take k/\¬ x<s else ∀x,x∈l.take k->x<s
theorem bW0{l:List (List UInt8)}{k:Nat}{x:List UInt8}(h:l[k]?=some x):l.take (k+1)=l.take k ++ [x]:=by rw[List.take_add_one,h];rfl
theorem bYp{l:List (List UInt8)}{s x:List UInt8}{k:Nat}(h:l[k]?=some x)(ho:bWv l s k true):bWv l s (k+1) true/\bWm l s (k+1) true=bWm l s k true ++ [x]:=by
 unfold bWv bWm at *;rw[if_pos rfl] at *;rw[if_pos rfl,if_pos rfl,bW0 h];obtain⟨y,hy,hn⟩:=ho;exact⟨⟨y,List.mem_append_left _ hy,hn⟩,bYb ⟨y,hy,hn⟩⟩
theorem bYo{l:List (List UInt8)}{s x:List UInt8}{k:Nat}(h:l[k]?=some x)(ho:bWv l s k false)(hx:x<s):bWv l s (k+1) false/\bWm l s (k+1) false=bWm l s k false ++ [x]:=by
 unfold bWv bWm at *;rw[if_neg (by decide)] at *;rw[if_neg (by decide),if_neg (by decide),bW0 h];refine⟨fun y hy=>?_,rfl⟩;rcases List.mem_append.1 hy with hy|hy
 ·exact ho y hy
 ·rw[List.mem_singleton] at hy;rw[hy];exact hx
theorem bYs{l:List (List UInt8)}{s x:List UInt8}{k:Nat}(h:l[k]?=some x)(ho:bWv l s k false)(hx:¬ x<s):bWv l s (k+1) true/\bWm l s (k+1) true=bWm l s k false++(if x=s then[x] else[s,x]):=by
 unfold bWv bWm at *;rw[if_neg (by decide)] at ho;rw[if_pos rfl,if_pos rfl,if_neg (by decide),bW0 h];refine⟨⟨x,by simp,hx⟩,?_⟩;rw[bX7 ho];show _++bWw [x] s=_;rw[show bWw [x] s=if x<s then x::bWw [] s else if x=s then x :: [] else s::x :: [] from rfl,if_neg hx]
theorem bYv{l:List (List UInt8)}{s:List UInt8}{k:Nat}(hk:k=l.length):bWm l s k true=bWw l s:=by unfold bWm;rw[if_pos rfl,hk,List.take_length]
theorem bY1{l:List (List UInt8)}{s:List UInt8}{k:Nat}(hk:k=l.length)(ho:bWv l s k false):bWm l s k false ++ [s]=bWw l s:=by
 unfold bWv bWm at *;rw[if_neg (by decide)] at *;rw[hk,List.take_length] at *;have h:=bX7 (r:=[]) ho;rw[List.append_nil] at h;rw[h];rfl
theorem bXn{l:List (List UInt8)}{s:List UInt8}{k:Nat}{d:Bool}:(bWm l s k d).length<=k+1:=by
 unfold bWm;split
 ·have:=bYe (l.take k) s;rw[List.length_take] at this;omega
 ·rw[List.length_take];omega
theorem bX5{W:World}{base n:Nat}{v:Value}{ls:List (List UInt8)}(h:W.ownsRow base 9 1 v n (iS ls))(hn:n=ls.length):∃a c,v=.slice a ls.length c/\ls.length<=c/\c<=maxLen/\dT W a (iS ls):=by
 subst hn;rcases h.2 with⟨rfl,h0⟩|⟨g,cap,cur,rfl,_,hg,hn,hm,hc,ht⟩
 ·have:ls=[]:=List.length_eq_zero_iff.1 h0;subst this;exact⟨none,0,rfl,Nl _,by unfold maxLen;omega,.inl rfl⟩
 ·refine⟨_,cap,rfl,hn,hm,.inr ⟨g,0,rfl,(Ai.1 hg).1,fun k u hk=>?_⟩⟩;rw[Nat.zero_add];show (W.cell? ⟨g,k,none⟩)=some u;have hk2:cur[k]?=some u:=by
   rw[<-ht] at hk;rw[List.getElem?_take] at hk;split at hk
   ·rw[<-Array.getElem?_toList];exact hk
   ·cases hk
  simp[World.cell?,hg,hk2]
theorem bX4(l:List (List UInt8))(s:List UInt8)(a:Option Addr)(c:Nat)(w:World)(hr:dT w a (iS l))(hn:l.length<=2000)(hc:l.length<=c)(hcm:c<=maxLen):
  Calls prog 52 #[.slice a l.length c,.string ⟨s.toArray⟩] w fun e w'=>(∃a' c',e=.returned (.slice a' (bWc l s).length c')/\(bWc l s).length<=c'/\c'<=maxLen/\dT w' a' (iS (bWc l s)))/\Below w.heap.size w w':=by
 have HR:=Hd hr;have HM:=Hd hcm;clear hr hcm;unfold bWc
 by_cases h0:s=[]
 ·subst h0;rw[if_pos rfl];go_enter func52,ntmps52;go_wp2;go_ret;exact⟨⟨a,c,rfl,hc,HM.out,HR.out⟩,Br _ _⟩
 ·rw[if_neg h0];have h1:(s == [])=false:=by simpa using h0
  clear h0;have HO0:Hid ((w.alloc (.cells #[] 9)).ownsRow w.heap.size 9 1 (.slice (some ⟨w.heap.size,0,none⟩) 0 0) 0 (iS [])):=World.ownsRow_lit (base:=w.heap.size) (e:=9) (size:=1) w #[] 0 (Nl _) (by unfold maxLen;omega) rfl;have HB0:Hid (Below w.heap.size w (w.alloc (.cells #[] 9))):=aB _ _;go_enter func52,ntmps52;go_wp2_with fail;go_loopw [5,6,7] (fun ov dv iv wr=>∃(k:Nat) (d:Bool),k<=l.length/\iv=.int .i64 k/\dv=.bool d/\Hid (bWv l s k d)/\Hid (wr.ownsRow w.heap.size 9 1 ov (bWm l s k d).length (iS (bWm l s k d)))/\Hid (Below w.heap.size w wr)) (fun _ _ iv _=>l.length-(intOf iv).toNat)
  case atStart=>exact⟨0,false,Nat.zero_le _,rfl,rfl,(fun x hx=>by cases hx),HO0.out,HB0.out⟩
  case round =>
   clear HO0 HB0;obtain⟨k,d,hk,rfl,rfl,HOK,HO,HB⟩:=hrel;have HBS:=Hd HB.out.size
   by_cases hlt:k<l.length
   ·obtain⟨x,hx⟩:∃x,l[k]?=some x:=⟨_,Lg hlt⟩
    obtain⟨b,off,rfl,hbl,hcc⟩:=HR.out.addr (by intro h;rw[show l=[] by simpa[iS] using h] at hx;simp at hx);have CW:Hid (w.cell? ⟨b,off+k,none⟩=some (.string ⟨x.toArray⟩)):=hcc k _ (by unfold iS;rw[List.getElem?_map,hx];rfl);have c0:=(HB.out.cell (p:=⟨b,off+k,none⟩) hbl).trans CW.out;have HBL:=Hd hbl;have HX:=Hd hx;have hkc:k<=c:=by omega
    have HLN:Hid ((bWm l s k d).length<=100000):=by have:=bXn (l:=l) (s:=s) (k:=k) (d:=d);show _<=_;omega
    have hbl2:=bytesLess_eq x s;clear hcc hx hbl;cases d with
    |true =>
     have HST:=Hd (bYp HX.out HOK.out);go_wp2_with (at_builtin;refine bWr (w0:=w) rfl _ _ rfl w.heap.size _ _ _ rfl HO.out x rfl HLN.out HB.out HBS.out ?_;intro v5 w5 ho5 hb5;have HO5:=Hd ho5;have HB5:=Hd hb5;clear ho5 hb5);go_roundw
     case rel=>exact⟨k+1,true,by omega,by go_num,rfl,HST.out.1,by show World.ownsRow _ _ _ _ _ _ _;rw[HST.out.2,List.length_append];exact HO5.out,HB5.out⟩
     case measure=>simp[intOf];omega
    |false =>
     by_cases hxs:x<s
     ·have HST:=Hd (bYo HX.out HOK.out hxs);rw[decide_eq_true hxs] at hbl2;go_wp2_with (at_builtin;refine bWr (w0:=w) rfl _ _ rfl w.heap.size _ _ _ rfl HO.out x rfl HLN.out HB.out HBS.out ?_;intro v5 w5 ho5 hb5;have HO5:=Hd ho5;have HB5:=Hd hb5;clear ho5 hb5);go_roundw
      case rel=>exact⟨k+1,false,by omega,by go_num,rfl,HST.out.1,by show World.ownsRow _ _ _ _ _ _ _;rw[HST.out.2,List.length_append];exact HO5.out,HB5.out⟩
      case measure=>simp[intOf];omega
     ·have HST:=Hd (bYs HX.out HOK.out hxs);rw[decide_eq_false hxs] at hbl2;cases hq:(x==s) with
      |true =>
       obtain rfl:x=s:=by simpa using hq
       clear hq hbl2;have hbl2:=bytesLess_eq x x;rw[decide_eq_false hxs] at hbl2;go_wp2_with (at_builtin;refine bWr (w0:=w) rfl _ _ rfl w.heap.size _ _ _ rfl HO.out x rfl HLN.out HB.out HBS.out ?_;intro v5 w5 ho5 hb5;have HO5:=Hd ho5;have HB5:=Hd hb5;clear ho5 hb5);go_roundw
       case rel=>exact⟨k+1,true,by omega,by go_num,rfl,HST.out.1,by show World.ownsRow _ _ _ _ _ _ _;rw[HST.out.2,if_pos rfl,List.length_append];exact HO5.out,HB5.out⟩
       case measure=>simp[intOf];omega
      |false =>
       have hxe:¬ x=s:=by simpa using hq
       have HLN2:Hid ((bWm l s k false).length+1<=100000):=by have:=bXn (l:=l) (s:=s) (k:=k) (d:=false);show _<=_;omega
       go_wp2_with (at_builtin;first
        |(refine bWr (w0:=w) rfl _ _ rfl w.heap.size _ _ _ rfl HO.out s rfl HLN.out HB.out HBS.out ?_;intro v5 w5 ho5 hb5;have c1:=(hb5.cell (p:=⟨b,off+k,none⟩) HBL.out).trans CW.out;have HO5:=Hd ho5;have HB5:=Hd hb5;have HBS5:=Hd hb5.size;clear ho5 hb5)
        |(refine bWr (w0:=w) rfl _ _ rfl w.heap.size _ _ _ rfl HO5.out x rfl HLN2.out HB5.out HBS5.out ?_;intro v6 w6 ho6 hb6;have HO6:=Hd ho6;have HB6:=Hd hb6;clear ho6 hb6))
       go_roundw
       case rel=>exact⟨k+1,true,by omega,by go_num,rfl,HST.out.1,by show World.ownsRow _ _ _ _ _ _ _;rw[HST.out.2,if_neg hxe,List.length_append,show bWm l s k false ++ [s,x]=(bWm l s k false ++ [s]) ++ [x] by simp];exact HO6.out,HB6.out⟩
       case measure=>simp[intOf];omega
   ·have hke:k=l.length:=by omega
    cases d with
    |true =>
     have HOE:=HO.out;rw[bYv hke] at HOE;obtain⟨a',c',rfl,e1,e2,e3⟩:=bX5 HOE rfl;have HF:=Hd (And.intro e1 (And.intro e2 e3));clear HOE e1 e2 e3 HO;go_wp2;go_ret;exact⟨⟨a',c',rfl,HF.out.1,HF.out.2.1,HF.out.2.2⟩,HB.out⟩
    |false =>
     have HEN:=Hd (bY1 hke HOK.out);have HLN:Hid ((bWm l s k false).length<=100000):=by have:=bXn (l:=l) (s:=s) (k:=k) (d:=false);show _<=_;omega
     go_wp2_with (at_builtin;refine bWr (w0:=w) rfl _ _ rfl w.heap.size _ _ _ rfl HO.out s rfl HLN.out HB.out HBS.out ?_;intro v5 w5 ho5 hb5;rw[HEN.out] at ho5;obtain⟨a',c',rfl,e1,e2,e3⟩:=bX5 ho5 (by rw[<-HEN.out,List.length_append];rfl);have HF:=Hd (And.intro e1 (And.intro e2 e3));have HB5:=Hd hb5;clear ho5 hb5 e1 e2 e3);go_ret;exact⟨⟨a',c',rfl,HF.out.1,HF.out.2.1,HF.out.2.2⟩,HB5.out⟩
theorem bYz(f:aE)(pa oa:Option Addr)(pc oc:Nat)(w:World)(hb:f.Behind w pa oa)(hol:f.options.length<=1000):
  Calls prog 18 #[.agg (f.cells pa pc oa oc)] w fun e w'=>(∃a' c',e=.returned (.slice a' (bPk f).length c')/\(bPk f).length<=c'/\dT w' a' (iS (bPk f)))/\Below w.heap.size w w':=by
 have HBO:=Hd hb.2;have KF:Hid (aP (w.alloc (.cells (f.cells pa pc oa oc) 29)) w.heap.size (f.cells pa pc oa oc) 29):=aP.new0 _ _ _;have KG:Hid (aP ((w.alloc (.cells (f.cells pa pc oa oc) 29)).alloc (.cells #[] 9)) w.heap.size (f.cells pa pc oa oc) 29):=KF.out.below (aB _ _);have HBA:Hid (Below w.heap.size w ((w.alloc (.cells (f.cells pa pc oa oc) 29)).alloc (.cells #[] 9))):=aA (aB _ _) (aB _ _);have c5:=(KG.out.cell 5).trans (show (f.cells pa pc oa oc)[5]?=some (.string ⟨f.ins.toArray⟩) from rfl);have HC:Hid ((f.cells pa pc oa oc)[4]?=some (.int .i64 f.kind)/\(f.cells pa pc oa oc)[6]?=some (.string ⟨f.other.toArray⟩)/\(f.cells pa pc oa oc)[19]?=some (.slice oa f.options.length oc)):=⟨rfl,rfl,rfl⟩
 have HALL:=Hd (bYq f);have HLR:=Hd (bYd f);have HZ1:Hid (bWq f 0=if f.kind=9∨f.kind=12 then bWc (bWc [] f.ins) f.other else bWc [] f.ins):=rfl;have HW1:Hid (∀W,dT W (some ⟨w.heap.size+1,0,none⟩) (iS [])->Calls prog 52 #[.slice (some ⟨w.heap.size+1,0,none⟩) 0 0,.string ⟨f.ins.toArray⟩] W fun e w'=>(∃a' c',e=.returned (.slice a' (bWc [] f.ins).length c')/\(bWc [] f.ins).length<=c'/\c'<=maxLen/\dT w' a' (iS (bWc [] f.ins)))/\Below W.heap.size W w'):=fun W h=>bX4 [] f.ins _ 0 W h (by simp) (by simp) (by unfold maxLen;omega)
 have HW2:Hid (∀a c W,dT W a (iS (bWc [] f.ins))->(bWc [] f.ins).length<=c->c<=maxLen->Calls prog 52 #[.slice a (bWc [] f.ins).length c,.string ⟨f.other.toArray⟩] W fun e w'=>(∃a' c',e=.returned (.slice a' (bWc (bWc [] f.ins) f.other).length c')/\(bWc (bWc [] f.ins) f.other).length<=c'/\c'<=maxLen/\dT w' a' (iS (bWc (bWc [] f.ins) f.other)))/\Below W.heap.size W w'):=fun a c W h h1 h2=>bX4 _ f.other a c W h (by have:=bXc [] f.ins;simp only[List.length_nil] at this;omega) h1 h2
 have HW3:Hid (∀k o,f.options[k]?=some o->∀a c W,dT W a (iS (bWq f k))->(bWq f k).length<=c->c<=maxLen->Calls prog 52 #[.slice a (bWq f k).length c,.string ⟨o.other.toArray⟩] W fun e w'=>(∃a' c',e=.returned (.slice a' (bWq f (k+1)).length c')/\(bWq f (k+1)).length<=c'/\c'<=maxLen/\dT w' a' (iS (bWq f (k+1))))/\Below W.heap.size W w'):=fun k o ho a c W h h1 h2=>by
  rw[bYh ho];have hk:=(Li.1 ho).1;exact bX4 _ o.other a c W h (by have:=bYd f k;omega) h1 h2
 generalize f.cells pa pc oa oc=cs at *;clear hb;obtain⟨ks,hks⟩:∃ks,ks=f.kind:=⟨_,rfl⟩
 rw[<-hks] at HC HZ1;clear hks;go_enter func18,ntmps18;go_wp2_with fail;refine(HW1.out _ (.inl rfl)).mono ?_;rintro e w1 ⟨⟨a1,k1,rfl,hk1,hm1,hr1⟩,hb1⟩;have K1:=Hd (KG.out.below hb1);have HB1:=Hd (aA HBA.out hb1);have HR1:=Hd hr1;have c4:=(K1.out.cell 4).trans HC.out.1;have c6:=(K1.out.cell 6).trans HC.out.2.1;clear hb1 hr1 KF KG HBA c5 HW1
 by_cases hk9:ks=9∨ks=12
 case' pos =>
  rw[if_pos hk9] at HZ1;have HWX:=Hd (HW2.out a1 k1 w1 HR1.out hk1 hm1);clear HW2 HR1;rcases hk9 with rfl|rfl
  all_goals
   go_wp2_with fail;refine HWX.out.mono ?_;rintro e w2 ⟨⟨a2,k2,rfl,hk2,hm2,hr2⟩,hb2⟩;have K2:=Hd (K1.out.below hb2);have HB2:=Hd (aA HB1.out hb2);have HR2:=Hd hr2;clear hb2 hr2 K1 HB1 HWX c4 c6;rw[<-HZ1.out] at HR2 hk2 ⊢;go_wp2_with fail
 case' neg =>
  rw[if_neg hk9] at HZ1;have g1:(ks==9)=false:=by simp;omega
  have g2:(ks==12)=false:=by simp;omega
  have K2:=Hd K1.out;have HB2:=Hd HB1.out;have HR2:=Hd HR1.out;have hk2:=hk1;have hm2:=hm1;clear K1 HB1 HR1 HW2 c6 hk9 hk1 hm1;rw[<-HZ1.out] at HR2 hk2 ⊢;go_wp2_with fail
 all_goals
  go_loopw [3,4] (fun ov iv wr=>∃(k:Nat) (a':Option Addr) (c':Nat),k<=f.options.length/\iv=.int .i64 (k:Int)/\ov=.slice a' (bWq f k).length c'/\(bWq f k).length<=c'/\c'<=maxLen/\Hid (dT wr a' (iS (bWq f k)))/\Hid (Below w.heap.size w wr)/\Hid (aP wr w.heap.size cs 29)) (fun _ iv _=>f.options.length-(intOf iv).toNat)
  case atStart=>exact⟨0,_,_,Nat.zero_le _,rfl,rfl,hk2,hm2,HR2.out,HB2.out,K2.out⟩
  case round =>
   clear HR2 HB2 K2 hk2 hm2;obtain⟨k,a',c',hk,rfl,rfl,hkc,hkm,HR,HB,K⟩:=hrel;have c19:=(K.out.cell 19).trans HC.out.2.2
   by_cases hlt:k<f.options.length
   ·obtain⟨o,ho⟩:∃o,f.options[k]?=some o:=⟨_,Lg hlt⟩
    obtain⟨b,off,rfl,hbl,hc⟩:=HBO.out.addr (k:=k) (cs:=o.cells) (by rw[List.getElem?_map,ho];rfl);have d0:wr.cell? ⟨b,off+k*7,none⟩=some (.string ⟨o.other.toArray⟩):=(HB.out.cell (p:=⟨b,off+k*7,none⟩) hbl).trans (hc 0 _ rfl);have HWX:=Hd (HW3.out k o ho a' c' wr HR.out hkc hkm);clear hc ho;generalize o.other=ot at *;go_wp2_with fail;refine HWX.out.mono ?_;rintro e w5 ⟨⟨a5,k5,rfl,hk5,hm5,hr5⟩,hb5⟩;have HF:=Hd (And.intro hr5 (And.intro (aA HB.out hb5) (K.out.below hb5)));clear hr5 hb5;go_wp2;go_roundw
    case rel=>exact⟨k+1,a5,k5,by omega,by go_num,rfl,hk5,hm5,HF.out.1,HF.out.2.1,HF.out.2.2⟩
    case measure=>simp[intOf];omega
   ·obtain rfl:k=f.options.length:=by omega
    have HR9:=HR.out;rw[HALL.out] at HR9 hkc ⊢;have HF:=Hd (And.intro hkc HR9);clear HR9;go_wp2;go_ret;exact⟨⟨a',c',rfl,HF.out.1,HF.out.2⟩,HB.out⟩
end
section
open Go Go.RowKit Num
theorem bYa{α:Type}{l m:List α}{k:Nat}{x:α}(h:l.take k=m.take k)(hl:l[k]?=some x)(hm:m[k]?=some x):l.take (k+1)=m.take (k+1):=by
 rw[List.take_add_one,List.take_add_one,h,hl,hm]
theorem bYk(f g:aE)(pa oa pb ob:Option Addr)(pc oc pd od:Nat)(w:World)(hb1:f.Behind w pa oa)(hb2:g.Behind w pb ob)(hp:f.picks.length<=1000000)(ho:f.options.length<=1000000):
  Calls prog 20 #[.agg (f.cells pa pc oa oc),.agg (g.cells pb pd ob od)] w fun e w'=>e=.returned (.bool (bI2 f g))/\Below w.heap.size w w':=by
 have KF:=((aP.new0 w (f.cells pa pc oa oc) 29).below (aB _ (.cells (g.cells pb pd ob od) 29)))
 have KG:=aP.new0 (w.alloc (.cells (f.cells pa pc oa oc) 29)) (g.cells pb pd ob od) 29;rw[World.size_alloc] at KG;have HB0:=Hd (((Br w.heap.size w).alloc (Nl _) (.cells (f.cells pa pc oa oc) 29)).alloc (by simp) (.cells (g.cells pb pd ob od) 29));have HP1:=Hd (hb1.below HB0.out);have HP2:=Hd (hb2.below HB0.out);have HT:Hid (f=g->bI2 f g=true):=bKw.2;have HF:Hid (f≠g->bI2 f g=false):=fun h=>by
  cases e:bI2 f g with
  |false=>rfl
  |true=>exact absurd (bKw.1 e) h
 clear hb1 hb2;generalize bI2 f g=res at *;obtain⟨W0,hW0⟩:∃W0,W0=(w.alloc (.cells (f.cells pa pc oa oc) 29)).alloc (.cells (g.cells pb pd ob od) 29):=⟨_,rfl⟩
 rw[<-hW0] at KF KG HB0 HP1 HP2;obtain⟨c0,c1,c2,c3,c4,c5,c6,c7,c8,c9,c10,c11,c12,c13,c14,c15,c16,c17,c18,c19,c20⟩:=bXy KF;obtain⟨g0,g1,g2,g3,g4,g5,g6,g7,g8,g9,g10,g11,g12,g13,g14,g15,g16,g17,g18,g19,g20⟩:=bXy KG;have KF:=Hd KF;have KG:=Hd KG;generalize hfc:f.cells pa pc oa oc=fc at *;generalize hgc:g.cells pb pd ob od=gc at *;have HFC:=Hd hfc;have HGC:=Hd hgc;clear hfc hgc;go_enter func20,ntmps20;go_upto_region 1 with fail
 rw[<-hW0];clear hW0;go_cut [74] from 75 (fun v wx=>wx=W0/\((v=.bool true/\f≠g)∨(v=.bool false/\f.key=g.key/\f.stamp=g.stamp/\f.cancelled=g.cancelled/\f.day=g.day/\f.kind=g.kind/\f.ins=g.ins/\f.other=g.other/\f.cur=g.cur/\f.target=g.target/\f.choice=g.choice)))
 case first =>
  clear KF KG HFC HGC HP1 HP2 HT HF;clear c9 g9 c10 g10 c11 g11 c12 g12 c13 g13 c14 g14 c15 g15 c16 g16 c17 g17 c18 g18 c19 g19
  by_cases e0:f.key=g.key
  rotate_left
  ·have q:=beq_eq_false_iff_ne.2 e0;clear c1 g1 c2 g2 c3 g3 c4 g4 c5 g5 c6 g6 c7 g7 c8 g8 c20 g20;go_wp2_with fail;go_meet
   case rel=>exact⟨rfl,.inl ⟨by first|rfl|simp[e0],fun e=>e0 (e ▸ rfl)⟩⟩
  rw[<-e0] at g0
  by_cases e1:f.stamp=g.stamp
  rotate_left
  ·have q:=beq_eq_false_iff_ne.2 e1;clear c2 g2 c3 g3 c4 g4 c5 g5 c6 g6 c7 g7 c8 g8 c20 g20;go_wp2_with fail;go_meet
   case rel=>exact⟨rfl,.inl ⟨by first|rfl|simp[e1],fun e=>e1 (e ▸ rfl)⟩⟩
  rw[<-e1] at g1
  by_cases e2:f.cancelled=g.cancelled
  rotate_left
  ·have q:=beq_eq_false_iff_ne.2 e2;clear c3 g3 c4 g4 c5 g5 c6 g6 c7 g7 c8 g8 c20 g20;go_wp2_with fail;go_meet
   case rel=>exact⟨rfl,.inl ⟨by first|rfl|simp[e2],fun e=>e2 (e ▸ rfl)⟩⟩
  rw[<-e2] at g2
  by_cases e3:f.day=g.day
  rotate_left
  ·have q:=beq_eq_false_iff_ne.2 e3;clear c4 g4 c5 g5 c6 g6 c7 g7 c8 g8 c20 g20;go_wp2_with fail;go_meet
   case rel=>exact⟨rfl,.inl ⟨by first|rfl|simp[e3],fun e=>e3 (e ▸ rfl)⟩⟩
  rw[<-e3] at g3
  by_cases e4:f.kind=g.kind
  rotate_left
  ·have q:=beq_eq_false_iff_ne.2 e4;clear c5 g5 c6 g6 c7 g7 c8 g8 c20 g20;go_wp2_with fail;go_meet
   case rel=>exact⟨rfl,.inl ⟨by first|rfl|simp[e4],fun e=>e4 (e ▸ rfl)⟩⟩
  rw[<-e4] at g4
  by_cases e5:f.ins=g.ins
  rotate_left
  ·have q:=beq_eq_false_iff_ne.2 e5;clear c6 g6 c7 g7 c8 g8 c20 g20;go_wp2_with fail;go_meet
   case rel=>exact⟨rfl,.inl ⟨by first|rfl|simp[e5],fun e=>e5 (e ▸ rfl)⟩⟩
  rw[<-e5] at g5
  by_cases e6:f.other=g.other
  rotate_left
  ·have q:=beq_eq_false_iff_ne.2 e6;clear c7 g7 c8 g8 c20 g20;go_wp2_with fail;go_meet
   case rel=>exact⟨rfl,.inl ⟨by first|rfl|simp[e6],fun e=>e6 (e ▸ rfl)⟩⟩
  rw[<-e6] at g6
  by_cases e7:f.cur=g.cur
  rotate_left
  ·have q:=beq_eq_false_iff_ne.2 e7;clear c8 g8 c20 g20;go_wp2_with fail;go_meet
   case rel=>exact⟨rfl,.inl ⟨by first|rfl|simp[e7],fun e=>e7 (e ▸ rfl)⟩⟩
  rw[<-e7] at g7
  by_cases e8:f.target=g.target
  rotate_left
  ·have q:=beq_eq_false_iff_ne.2 e8;clear c20 g20;go_wp2_with fail;go_meet
   case rel=>exact⟨rfl,.inl ⟨by first|rfl|simp[e8],fun e=>e8 (e ▸ rfl)⟩⟩
  rw[<-e8] at g8
  by_cases e20:f.choice=g.choice
  rotate_left
  ·have q:=beq_eq_false_iff_ne.2 e20;go_wp2_with fail;go_meet
   case rel=>exact⟨rfl,.inl ⟨by first|rfl|simp[e20],fun e=>e20 (e ▸ rfl)⟩⟩
  rw[<-e20] at g20;go_wp2_with fail;go_meet
  case rel=>exact⟨rfl,.inr ⟨rfl,e0,e1,e2,e3,e4,e5,e6,e7,e8,e20⟩⟩
 case rest =>
 obtain⟨hwc,hcut⟩:=hcut;have hwc:=hwc.symm;subst hwc;rcases hcut with⟨rfl,hne⟩|⟨rfl,e0,e1,e2,e3,e4,e5,e6,e7,e8,e20⟩
 ·have hr:=HF.out hne;go_wp2;go_ret;exact⟨by first|rfl|(rw[hr];rfl),HB0.out⟩
 clear c0 g0 c1 g1 c2 g2 c3 g3 c4 g4 c5 g5 c6 g6 c7 g7 c8 g8 c20 g20;go_upto_region 3 with fail
 go_cut [132] from 133 (fun v wx=>wx=W0/\((v=.bool true/\f≠g)∨(v=.bool false/\f.q=g.q/\f.amt=g.amt/\f.fee=g.fee/\f.price.n=g.price.n/\f.price.d=g.price.d/\f.ratio.n=g.ratio.n/\f.ratio.d=g.ratio.d/\f.share.n=g.share.n/\f.share.d=g.share.d/\f.picks.length=g.picks.length/\f.options.length=g.options.length)))
 case first =>
  clear KF KG HFC HGC HP1 HP2 HT HF
  by_cases e9:f.q=g.q
  rotate_left
  ·have q:=beq_eq_false_iff_ne.2 e9;clear c10 g10 c11 g11 c12 g12 c13 g13 c14 g14 c15 g15 c16 g16 c17 g17 c18 g18 c19 g19;go_wp2_with fail;go_meet
   case rel=>exact⟨rfl,.inl ⟨by first|rfl|simp[e9],fun e=>e9 (e ▸ rfl)⟩⟩
  rw[<-e9] at g9
  by_cases e10:f.amt=g.amt
  rotate_left
  ·have q:=beq_eq_false_iff_ne.2 e10;clear c11 g11 c12 g12 c13 g13 c14 g14 c15 g15 c16 g16 c17 g17 c18 g18 c19 g19;go_wp2_with fail;go_meet
   case rel=>exact⟨rfl,.inl ⟨by first|rfl|simp[e10],fun e=>e10 (e ▸ rfl)⟩⟩
  rw[<-e10] at g10
  by_cases e11:f.fee=g.fee
  rotate_left
  ·have q:=beq_eq_false_iff_ne.2 e11;clear c12 g12 c13 g13 c14 g14 c15 g15 c16 g16 c17 g17 c18 g18 c19 g19;go_wp2_with fail;go_meet
   case rel=>exact⟨rfl,.inl ⟨by first|rfl|simp[e11],fun e=>e11 (e ▸ rfl)⟩⟩
  rw[<-e11] at g11
  by_cases e12:f.price.n=g.price.n
  rotate_left
  ·have q:=beq_eq_false_iff_ne.2 e12;clear c14 g14 c15 g15 c16 g16 c17 g17 c18 g18 c19 g19;go_wp2_with fail;go_meet
   case rel=>exact⟨rfl,.inl ⟨by first|rfl|simp[e12],fun e=>e12 (e ▸ rfl)⟩⟩
  rw[<-e12] at g12
  by_cases e13:f.price.d=g.price.d
  rotate_left
  ·have q:=beq_eq_false_iff_ne.2 e13;clear c14 g14 c15 g15 c16 g16 c17 g17 c18 g18 c19 g19;go_wp2_with fail;go_meet
   case rel=>exact⟨rfl,.inl ⟨by first|rfl|simp[e13],fun e=>e13 (e ▸ rfl)⟩⟩
  rw[<-e13] at g13
  by_cases e14:f.ratio.n=g.ratio.n
  rotate_left
  ·have q:=beq_eq_false_iff_ne.2 e14;clear c16 g16 c17 g17 c18 g18 c19 g19;go_wp2_with fail;go_meet
   case rel=>exact⟨rfl,.inl ⟨by first|rfl|simp[e14],fun e=>e14 (e ▸ rfl)⟩⟩
  rw[<-e14] at g14
  by_cases e15:f.ratio.d=g.ratio.d
  rotate_left
  ·have q:=beq_eq_false_iff_ne.2 e15;clear c16 g16 c17 g17 c18 g18 c19 g19;go_wp2_with fail;go_meet
   case rel=>exact⟨rfl,.inl ⟨by first|rfl|simp[e15],fun e=>e15 (e ▸ rfl)⟩⟩
  rw[<-e15] at g15
  by_cases e16:f.share.n=g.share.n
  rotate_left
  ·have q:=beq_eq_false_iff_ne.2 e16;clear c18 g18 c19 g19;go_wp2_with fail;go_meet
   case rel=>exact⟨rfl,.inl ⟨by first|rfl|simp[e16],fun e=>e16 (e ▸ rfl)⟩⟩
  rw[<-e16] at g16
  by_cases e17:f.share.d=g.share.d
  rotate_left
  ·have q:=beq_eq_false_iff_ne.2 e17;clear c18 g18 c19 g19;go_wp2_with fail;go_meet
   case rel=>exact⟨rfl,.inl ⟨by first|rfl|simp[e17],fun e=>e17 (e ▸ rfl)⟩⟩
  rw[<-e17] at g17
  by_cases e18:f.picks.length=g.picks.length
  rotate_left
  ·have q:((f.picks.length:Int)==(g.picks.length:Int))=false:=by simp;omega
   clear c19 g19;go_wp2_with fail;go_meet
   case rel=>exact⟨rfl,.inl ⟨by first|rfl|(simp;omega),fun e=>e18 (e ▸ rfl)⟩⟩
  rw[<-e18] at g18
  by_cases e19:f.options.length=g.options.length
  rotate_left
  ·have q:((f.options.length:Int)==(g.options.length:Int))=false:=by simp;omega
   go_wp2_with fail;go_meet
   case rel=>exact⟨rfl,.inl ⟨by first|rfl|(simp;omega),fun e=>e19 (e ▸ rfl)⟩⟩
  rw[<-e19] at g19;go_wp2_with fail;go_meet
  case rel=>exact⟨rfl,.inr ⟨rfl,e9,e10,e11,e12,e13,e14,e15,e16,e17,e18,e19⟩⟩
 case rest =>
 obtain⟨hwc,hcut⟩:=hcut;have hwc:=hwc.symm;subst hwc;rcases hcut with⟨rfl,hne⟩|⟨rfl,e9,e10,e11,e12,e13,e14,e15,e16,e17,e18,e19⟩
 ·have hr:=HF.out hne;go_wp2;go_ret;exact⟨by first|rfl|(rw[hr];rfl),HB0.out⟩
 have HE:=Hd (show ∀ps os,f.picks=ps->f.options=os->g.picks=ps->g.options=os->f=g from fun ps os a b c d=>by
  obtain⟨_,_,_,_,_,_,_,_,_,_,_,_,⟨_,_⟩,⟨_,_⟩,⟨_,_⟩,_,_,_⟩:=f;obtain⟨_,_,_,_,_,_,_,_,_,_,_,_,⟨_,_⟩,⟨_,_⟩,⟨_,_⟩,_,_,_⟩:=g
  simp_all)
 have L18:=Hd e18;have L19:=Hd e19;clear e0 e1 e2 e3 e4 e5 e6 e7 e8 e20 e9 e10 e11 e12 e13 e14 e15 e16 e17 e18 e19 c9 g9 c10 g10 c11 g11 c12 g12 c13 g13 c14 g14 c15 g15 c16 g16 c17 g17 c18 g18 c19 g19;go_wp2_with fail;go_loopw [5] (fun iv wr=>∃k:Nat,k<=f.picks.length/\iv=.int .i64 k/\Hid (f.picks.take k=g.picks.take k)/\Hid (Below W0.heap.size W0 wr)) (fun iv _=>f.picks.length-(intOf iv).toNat)
 case atStart=>exact⟨0,Nat.zero_le _,rfl,rfl,Br _ _⟩
 case round =>
  obtain⟨k,hk,rfl,HTK,HB⟩:=hrel;have c18:=((KF.out.below HB.out).cell 18).trans (show _=some (.slice pa f.picks.length pc) from by rw[<-HFC.out];rfl);have g18:=((KG.out.below HB.out).cell 18).trans (show _=some (.slice pb f.picks.length pd) from by rw[<-HGC.out,L18.out];rfl)
  by_cases hlt:k<f.picks.length
  ·obtain⟨p,hp⟩:∃p,f.picks[k]?=some p:=⟨_,Lg hlt⟩
   obtain⟨p',hp'⟩:∃p',g.picks[k]?=some p':=⟨_,Lg (by rw[<-L18.out];exact hlt)⟩
   obtain⟨b1,o1,rfl,hl1,h1⟩:=HP1.out.1.addr (k:=k) (cs:=p.cells) (by rw[List.getElem?_map,hp];rfl);obtain⟨b2,o2,rfl,hl2,h2⟩:=HP2.out.1.addr (k:=k) (cs:=p'.cells) (by rw[List.getElem?_map,hp'];rfl);have d0:wr.cell? ⟨b1,o1+k*2,none⟩=some (.string ⟨p.lot.toArray⟩):=(HB.out.cell (p:=⟨b1,o1+k*2+0,none⟩) hl1).trans (h1 0 _ rfl);have d1:wr.cell? ⟨b1,o1+k*2+1,none⟩=some (.string ⟨p.q.toArray⟩):=(HB.out.cell (p:=⟨b1,o1+k*2+1,none⟩) hl1).trans (h1 1 _ rfl);have y0:wr.cell? ⟨b2,o2+k*2,none⟩=some (.string ⟨p'.lot.toArray⟩):=(HB.out.cell (p:=⟨b2,o2+k*2+0,none⟩) hl2).trans (h2 0 _ rfl);have y1:wr.cell? ⟨b2,o2+k*2+1,none⟩=some (.string ⟨p'.q.toArray⟩):=(HB.out.cell (p:=⟨b2,o2+k*2+1,none⟩) hl2).trans (h2 1 _ rfl);have HN:=Hd hp;have HM:=Hd hp';clear h1 h2 hp hp';generalize f.picks.length=n at *
   by_cases z0:p.lot=p'.lot
   rotate_left
   ·have q:=beq_eq_false_iff_ne.2 z0;have hr:=HF.out (fun e=>z0 (by have h:=HN.out;rw[e] at h;have h2:=HM.out;rw[h] at h2;rw[Option.some.inj h2]));go_wp2_with fail;go_quiet (fail);go_wp2;go_ret;exact⟨by first|rfl|(rw[hr];rfl),aA HB0.out (aD HB.out _)⟩
   rw[<-z0] at y0
   by_cases z1:p.q=p'.q
   rotate_left
   ·have q:=beq_eq_false_iff_ne.2 z1;have hr:=HF.out (fun e=>z1 (by have h:=HN.out;rw[e] at h;have h2:=HM.out;rw[h] at h2;rw[Option.some.inj h2]));go_wp2_with fail;go_quiet (fail);go_wp2;go_ret;exact⟨by first|rfl|(rw[hr];rfl),aA HB0.out (aD HB.out _)⟩
   rw[<-z1] at y1;have hpe:p=p':=by cases p;cases p';simp_all
   have HTK2:=Hd (bYa HTK.out HN.out (by rw[hpe];exact HM.out));clear HN HM hpe z0 z1 HTK;go_wp2_with fail;go_quiet (fail);go_wp2;go_roundw
   case rel=>exact⟨k+1,by omega,by go_num,HTK2.out,aD HB.out _⟩
   case measure=>simp[intOf];omega
  ·obtain rfl:k=f.picks.length:=by omega
   have HPE:Hid (g.picks=f.picks):=by have h:=HTK.out;rw[List.take_length,L18.out,List.take_length] at h;exact h.symm
   clear HTK;obtain⟨W1,hW1⟩:∃W1,W1=wr:=⟨_,rfl⟩
   subst hW1;go_wp2_with fail;go_loopw [6] (fun iv wr=>∃k:Nat,k<=f.options.length/\iv=.int .i64 k/\Hid (f.options.take k=g.options.take k)/\Hid (Below W0.heap.size W0 wr)) (fun iv _=>f.options.length-(intOf iv).toNat)
   case atStart=>exact⟨0,Nat.zero_le _,rfl,rfl,HB⟩
   case round =>
    clear HB c18 g18;obtain⟨k,hk,rfl,HTK,HB⟩:=hrel;have c19:=((KF.out.below HB.out).cell 19).trans (show _=some (.slice oa f.options.length oc) from by rw[<-HFC.out];rfl);have g19:=((KG.out.below HB.out).cell 19).trans (show _=some (.slice ob f.options.length od) from by rw[<-HGC.out,L19.out];rfl)
    by_cases hlt:k<f.options.length
    ·obtain⟨p,hp⟩:∃p,f.options[k]?=some p:=⟨_,Lg hlt⟩
     obtain⟨p',hp'⟩:∃p',g.options[k]?=some p':=⟨_,Lg (by rw[<-L19.out];exact hlt)⟩
     obtain⟨b1,o1,rfl,hl1,h1⟩:=HP1.out.2.addr (k:=k) (cs:=p.cells) (by rw[List.getElem?_map,hp];rfl);obtain⟨b2,o2,rfl,hl2,h2⟩:=HP2.out.2.addr (k:=k) (cs:=p'.cells) (by rw[List.getElem?_map,hp'];rfl);have d0:wr.cell? ⟨b1,o1+k*7,none⟩=some (.string ⟨p.other.toArray⟩):=(HB.out.cell (p:=⟨b1,o1+k*7+0,none⟩) hl1).trans (h1 0 _ rfl);have y0:wr.cell? ⟨b2,o2+k*7,none⟩=some (.string ⟨p'.other.toArray⟩):=(HB.out.cell (p:=⟨b2,o2+k*7+0,none⟩) hl2).trans (h2 0 _ rfl);have d1:wr.cell? ⟨b1,o1+k*7+1,none⟩=some (.string ⟨p.ratio.n.toArray⟩):=(HB.out.cell (p:=⟨b1,o1+k*7+1,none⟩) hl1).trans (h1 1 _ rfl);have y1:wr.cell? ⟨b2,o2+k*7+1,none⟩=some (.string ⟨p'.ratio.n.toArray⟩):=(HB.out.cell (p:=⟨b2,o2+k*7+1,none⟩) hl2).trans (h2 1 _ rfl);have d2:wr.cell? ⟨b1,o1+k*7+2,none⟩=some (.string ⟨p.ratio.d.toArray⟩):=(HB.out.cell (p:=⟨b1,o1+k*7+2,none⟩) hl1).trans (h1 2 _ rfl);have y2:wr.cell? ⟨b2,o2+k*7+2,none⟩=some (.string ⟨p'.ratio.d.toArray⟩):=(HB.out.cell (p:=⟨b2,o2+k*7+2,none⟩) hl2).trans (h2 2 _ rfl);have d3:wr.cell? ⟨b1,o1+k*7+3,none⟩=some (.string ⟨p.price.n.toArray⟩):=(HB.out.cell (p:=⟨b1,o1+k*7+3,none⟩) hl1).trans (h1 3 _ rfl);have y3:wr.cell? ⟨b2,o2+k*7+3,none⟩=some (.string ⟨p'.price.n.toArray⟩):=(HB.out.cell (p:=⟨b2,o2+k*7+3,none⟩) hl2).trans (h2 3 _ rfl);have d4:wr.cell? ⟨b1,o1+k*7+4,none⟩=some (.string ⟨p.price.d.toArray⟩):=(HB.out.cell (p:=⟨b1,o1+k*7+4,none⟩) hl1).trans (h1 4 _ rfl);have y4:wr.cell? ⟨b2,o2+k*7+4,none⟩=some (.string ⟨p'.price.d.toArray⟩):=(HB.out.cell (p:=⟨b2,o2+k*7+4,none⟩) hl2).trans (h2 4 _ rfl);have d5:wr.cell? ⟨b1,o1+k*7+5,none⟩=some (.string ⟨p.value.n.toArray⟩):=(HB.out.cell (p:=⟨b1,o1+k*7+5,none⟩) hl1).trans (h1 5 _ rfl);have y5:wr.cell? ⟨b2,o2+k*7+5,none⟩=some (.string ⟨p'.value.n.toArray⟩):=(HB.out.cell (p:=⟨b2,o2+k*7+5,none⟩) hl2).trans (h2 5 _ rfl);have d6:wr.cell? ⟨b1,o1+k*7+6,none⟩=some (.string ⟨p.value.d.toArray⟩):=(HB.out.cell (p:=⟨b1,o1+k*7+6,none⟩) hl1).trans (h1 6 _ rfl);have y6:wr.cell? ⟨b2,o2+k*7+6,none⟩=some (.string ⟨p'.value.d.toArray⟩):=(HB.out.cell (p:=⟨b2,o2+k*7+6,none⟩) hl2).trans (h2 6 _ rfl);have HN:=Hd hp;have HM:=Hd hp';clear h1 h2 hp hp';generalize f.options.length=n at *
     by_cases z0:p.other=p'.other
     rotate_left
     ·have q:=beq_eq_false_iff_ne.2 z0;have hr:=HF.out (fun e=>z0 (by have h:=HN.out;rw[e] at h;have h2:=HM.out;rw[h] at h2;rw[Option.some.inj h2]));go_wp2_with fail;go_quiet (fail);go_wp2;go_ret;exact⟨by first|rfl|(rw[hr];rfl),aA HB0.out (aD HB.out _)⟩
     rw[<-z0] at y0
     by_cases z1:p.ratio.n=p'.ratio.n
     rotate_left
     ·have q:=beq_eq_false_iff_ne.2 z1;have hr:=HF.out (fun e=>z1 (by have h:=HN.out;rw[e] at h;have h2:=HM.out;rw[h] at h2;rw[Option.some.inj h2]));go_wp2_with fail;go_quiet (fail);go_wp2;go_ret;exact⟨by first|rfl|(rw[hr];rfl),aA HB0.out (aD HB.out _)⟩
     rw[<-z1] at y1
     by_cases z2:p.ratio.d=p'.ratio.d
     rotate_left
     ·have q:=beq_eq_false_iff_ne.2 z2;have hr:=HF.out (fun e=>z2 (by have h:=HN.out;rw[e] at h;have h2:=HM.out;rw[h] at h2;rw[Option.some.inj h2]));go_wp2_with fail;go_quiet (fail);go_wp2;go_ret;exact⟨by first|rfl|(rw[hr];rfl),aA HB0.out (aD HB.out _)⟩
     rw[<-z2] at y2
     by_cases z3:p.price.n=p'.price.n
     rotate_left
     ·have q:=beq_eq_false_iff_ne.2 z3;have hr:=HF.out (fun e=>z3 (by have h:=HN.out;rw[e] at h;have h2:=HM.out;rw[h] at h2;rw[Option.some.inj h2]));go_wp2_with fail;go_quiet (fail);go_wp2;go_ret;exact⟨by first|rfl|(rw[hr];rfl),aA HB0.out (aD HB.out _)⟩
     rw[<-z3] at y3
     by_cases z4:p.price.d=p'.price.d
     rotate_left
     ·have q:=beq_eq_false_iff_ne.2 z4;have hr:=HF.out (fun e=>z4 (by have h:=HN.out;rw[e] at h;have h2:=HM.out;rw[h] at h2;rw[Option.some.inj h2]));go_wp2_with fail;go_quiet (fail);go_wp2;go_ret;exact⟨by first|rfl|(rw[hr];rfl),aA HB0.out (aD HB.out _)⟩
     rw[<-z4] at y4
     by_cases z5:p.value.n=p'.value.n
     rotate_left
     ·have q:=beq_eq_false_iff_ne.2 z5;have hr:=HF.out (fun e=>z5 (by have h:=HN.out;rw[e] at h;have h2:=HM.out;rw[h] at h2;rw[Option.some.inj h2]));go_wp2_with fail;go_quiet (fail);go_wp2;go_ret;exact⟨by first|rfl|(rw[hr];rfl),aA HB0.out (aD HB.out _)⟩
     rw[<-z5] at y5
     by_cases z6:p.value.d=p'.value.d
     rotate_left
     ·have q:=beq_eq_false_iff_ne.2 z6;have hr:=HF.out (fun e=>z6 (by have h:=HN.out;rw[e] at h;have h2:=HM.out;rw[h] at h2;rw[Option.some.inj h2]));go_wp2_with fail;go_quiet (fail);go_wp2;go_ret;exact⟨by first|rfl|(rw[hr];rfl),aA HB0.out (aD HB.out _)⟩
     rw[<-z6] at y6;have hpe:p=p':=by obtain⟨_,⟨_,_⟩,⟨_,_⟩,⟨_,_⟩⟩:=p;obtain⟨_,⟨_,_⟩,⟨_,_⟩,⟨_,_⟩⟩:=p';simp_all
     have HTK2:=Hd (bYa HTK.out HN.out (by rw[hpe];exact HM.out));clear HN HM hpe z0 z1 z2 z3 z4 z5 z6 HTK;go_wp2_with fail;go_quiet (fail);go_wp2;go_roundw
     case rel=>exact⟨k+1,by omega,by go_num,HTK2.out,aD HB.out _⟩
     case measure=>simp[intOf];omega
    ·obtain rfl:k=f.options.length:=by omega
     have HOE:g.options=f.options:=by have h:=HTK.out;rw[List.take_length,L19.out,List.take_length] at h;exact h.symm
     have hr:=HT.out (HE.out _ _ rfl rfl HPE.out HOE);clear HOE HTK;go_wp2;go_ret;exact⟨by first|rfl|(rw[hr];rfl)|simp[hr],aA HB0.out HB.out⟩
end
end Go.Proofs.YthjekgfoidmagaaGreatDoor
