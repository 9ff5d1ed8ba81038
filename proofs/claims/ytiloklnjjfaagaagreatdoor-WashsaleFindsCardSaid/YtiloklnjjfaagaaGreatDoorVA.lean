/- WFlow WIx WCheck WLoss -/
import Derived.Test.YtiloklnjjfaagaaGreatDoorUWashP
set_option maxHeartbeats 16000000
set_option maxRecDepth 100000
namespace Go.Proofs.YtiloklnjjfaagaaGreatDoor
open Go.Proofs.Tryz
section
open Go Go.RowKit
def dDa(id:Nat):Code->Option (Array Oper)
 | .region i ops _=>if i=id then some ops else none
 | .seq a b=>(dDa id a).or (dDa id b)
 | .cond _ a b=>(dDa id a).or (dDa id b)
 | .block _ b=>dDa id b
 | .loop b=>dDa id b
 |_=>none
def bit(l:Array Bool)(k:Nat):Bool:=l.getD k false
theorem dCr{l:Array Bool}{i k:Nat}(h:i≠k):bit (l.setIfInBounds i true) k=bit l k:=Go.getD_set_ne _ h
theorem dCv{l:Array Bool}{i:Nat}(h:i<l.size):bit (l.setIfInBounds i true) i=true:=by
 unfold bit;simp[Array.getD_eq_getD_getElem?,h]
theorem dC0(n k:Nat):bit (Array.replicate n false) k=false:=by
 have:=Gu n k;unfold lP at this;unfold bit;simpa using this
section
variable {Γ:Type}{P:Program}{ops:Array Oper}{md:Region.Mode}{ds:List (Nat×Nat)}{val:Γ->Nat->Value}{G:Γ->Array Bool->World->Prop}{t0:Array Value}{d0:List Deferred}{Q:Exit->Act->World->Prop}{n:Nat}
theorem dCq{l:Array Bool}{i:Nat}(hr:i∈Region.ready md ops l):bit l i=false:=by
 have h:=(mem_ready.1 hr).1;unfold bit;rw[Array.getD_eq_getD_getElem?] at h ⊢;cases he:l[i]? with
 |none=>rfl
 |some b=>rw[he] at h;exact h
theorem uL.off{γ:Γ}{l:Array Bool}{a:Act}{w:World}(H:uL ops md ds val G t0 d0 γ l a w)(i j:Nat)(hi:bit l i=false)(he:((ops[j]?).map fun o=>o.after.any fun e=>e.on==i&&Region.binds md e)=some true:=by kernel_rfl):bit l j=false:=by
 cases hj:bit l j with
 |false=>rfl
 |true =>
  cases ho:ops[j]? with
  |none=>rw[ho] at he;cases he
  |some o =>
   rw[ho] at he;simp only[Option.map_some,Option.some.injEq] at he;obtain⟨k,hk,hb⟩:=Array.any_eq_true.1 he;simp only[Bool.and_eq_true,beq_iff_eq] at hb;have:=H.cl j o ho hj o.after[k] (Array.getElem_mem hk) hb.2;rw[hb.1] at this;unfold bit at hi;unfold lP at this;rw[hi] at this;cases this
end
end
section
open Go Go.RowKit Num
attribute [local go_sem] eW eN aV
def dEm(p:Bd->Bool)(ls:List Bd):Int:=match ls.findIdx? p with|some k=>(k:Int)|none=>-1
theorem dG4{p:Bd->Bool}{ls:List Bd}{k:Nat}{x:Bd}(hx:ls[k]?=some x)(hn:(ls.take k).any p=false)(h:p x=true):dEm p ls=(k:Int):=by
 have hk:=(Li.1 hx).1;have:ls.findIdx? p=some k:=by
  rw[List.findIdx?_eq_some_iff_getElem];refine⟨hk,?_,fun j hj=>?_⟩
  ·rw[(Li.1 hx).2];exact h
  ·rw[List.any_eq_false] at hn;have:=hn (ls[j]) (List.mem_iff_getElem.2 ⟨j,by rw[List.length_take];omega,by simp⟩);simpa using this
 unfold dEm;rw[this]
theorem dEg{p:Bd->Bool}{ls:List Bd}(h:ls.any p=false):dEm p ls = -1:=by
 have:ls.findIdx? p=none:=by
  rw[List.findIdx?_eq_none_iff];intro x hx;rw[List.any_eq_false] at h;simpa using h x hx
 unfold dEm;rw[this]
theorem dI5(p:Bd->Bool)(ls:List Bd):decide (0<=dEm p ls)=ls.any p:=by
 cases h:ls.any p with
 |false=>rw[dEg h];rfl
 |true =>
  unfold dEm;cases hf:ls.findIdx? p with
  |none =>
   rw[List.findIdx?_eq_none_iff] at hf;obtain⟨x,hx,hp⟩:=List.any_eq_true.1 h;rw[hf x hx] at hp;cases hp
  |some k=>simp
theorem dEx(g:Nat)(f1 f2 f3 f4:Value)(p:Bd->Bool)(I:World->Prop)(hI:∀W W',I W->Below W.heap.size W W'->I W')(hen:∀(args:Array Value) (w:World),(callFunc g args).run prog w=.ok (.enter g args) w)
  (ls:List Bd) (hp:∀(x:Bd) W,x∈ls->I W->Calls prog g #[x.v,f1,f2,f3,f4] W fun e w'=>e=.returned (.bool (p x))/\Below W.heap.size W w')
  (a:Option Addr) (cap:Nat) (w:World) (hw:Jj w a ls) (h0:I w) (hl:ls.length<=1000000) :
  Calls prog 65 #[.slice a ls.length cap,.func (.func g) #[] #[f1,f2,f3,f4]] w fun e w'=>e=.returned (.int .i64 (dEm p ls))/\Below w.heap.size w w':=by
 have HI:=Hd hI;have HP:=Hd hp;have HW:=Hd hw;have H0:=Hd h0;clear hI hp hw h0;obtain⟨r,hr⟩:∃r,r=dEm p ls:=⟨_,rfl⟩
 rw[<-hr];have HR:=Hd hr;clear hr;go_enter func65,ntmps65;go_wp2;go_loopw [8] (fun i W=>Hid (Below w.heap.size w W)/\Hid (I W)/\∃k:Nat,k<=ls.length/\i=.int .i64 (k:Int)/\Hid ((ls.take k).any p=false)) (fun i _=>ls.length-(intOf i).toNat)
 case atStart=>exact⟨Br _ _,H0,0,Nat.zero_le _,rfl,rfl⟩
 case round =>
  obtain⟨hB,hIW,k,hk,rfl,hT⟩:=hrel
  by_cases hlt:k<ls.length
  ·obtain⟨x,hx⟩:∃x,ls[k]?=some x:=⟨ls[k],Lg hlt⟩
   obtain⟨b,off,ha,k0,k1,k2,k3,k4,k5,k6⟩:=(HW.out.below hB.out).addr hx;subst ha;have HX:Hid (p x=true->r=(k:Int)):=fun h=>by rw[HR.out,dG4 hx hT.out h]
   have HY:=Hd (fun h=>aL2 (p:=p) hx hT.out h);have HP:=Hd (fun W h=>HP.out x W (List.mem_of_getElem? hx) h);clear hx;simp only[Bd.v] at HP;go_wp2_with fail;refine(HP.out _ hIW.out).mono ?_;rintro e w1 ⟨rfl,hb⟩;have hB:=Hd (aA hB.out hb);have hIW:=Hd (HI.out _ _ hIW.out hb);clear k0 k1 k2 k3 k4 k5 k6 hb;cases hpx:p x
   ·go_wp2;go_round
    case rel=>exact⟨hB,hIW,k+1,by omega,by go_num,HY.out hpx⟩
    case measure=>simp[intOf];omega
   ·go_wp2;go_ret;exact⟨gG (by rw[HX.out hpx]),hB.out⟩
  ·obtain rfl:k=ls.length:=by omega
   go_wp2;go_ret;exact⟨gG (by rw[HR.out,dEg (by have:=hT.out;rwa [List.take_length] at this)]),hB.out⟩
theorem dEy(g:Nat)(f1:Value)(p:Bd->Bool)(I:World->Prop)(hI:∀W W',I W->Below W.heap.size W W'->I W')(hen:∀(args:Array Value) (w:World),(callFunc g args).run prog w=.ok (.enter g args) w)
  (ls:List Bd) (hp:∀(x:Bd) W,x∈ls->I W->Calls prog g #[x.v,f1] W fun e w'=>e=.returned (.bool (p x))/\Below W.heap.size W w')
  (a:Option Addr) (cap:Nat) (w:World) (hw:Jj w a ls) (h0:I w) (hl:ls.length<=1000000) :
  Calls prog 65 #[.slice a ls.length cap,.func (.func g) #[] #[f1]] w fun e w'=>e=.returned (.int .i64 (dEm p ls))/\Below w.heap.size w w':=by
 have HI:=Hd hI;have HP:=Hd hp;have HW:=Hd hw;have H0:=Hd h0;clear hI hp hw h0;obtain⟨r,hr⟩:∃r,r=dEm p ls:=⟨_,rfl⟩
 rw[<-hr];have HR:=Hd hr;clear hr;go_enter func65,ntmps65;go_wp2;go_loopw [8] (fun i W=>Hid (Below w.heap.size w W)/\Hid (I W)/\∃k:Nat,k<=ls.length/\i=.int .i64 (k:Int)/\Hid ((ls.take k).any p=false)) (fun i _=>ls.length-(intOf i).toNat)
 case atStart=>exact⟨Br _ _,H0,0,Nat.zero_le _,rfl,rfl⟩
 case round =>
  obtain⟨hB,hIW,k,hk,rfl,hT⟩:=hrel
  by_cases hlt:k<ls.length
  ·obtain⟨x,hx⟩:∃x,ls[k]?=some x:=⟨ls[k],Lg hlt⟩
   obtain⟨b,off,ha,k0,k1,k2,k3,k4,k5,k6⟩:=(HW.out.below hB.out).addr hx;subst ha;have HX:Hid (p x=true->r=(k:Int)):=fun h=>by rw[HR.out,dG4 hx hT.out h]
   have HY:=Hd (fun h=>aL2 (p:=p) hx hT.out h);have HP:=Hd (fun W h=>HP.out x W (List.mem_of_getElem? hx) h);clear hx;simp only[Bd.v] at HP;go_wp2_with fail;refine(HP.out _ hIW.out).mono ?_;rintro e w1 ⟨rfl,hb⟩;have hB:=Hd (aA hB.out hb);have hIW:=Hd (HI.out _ _ hIW.out hb);clear k0 k1 k2 k3 k4 k5 k6 hb;cases hpx:p x
   ·go_wp2;go_round
    case rel=>exact⟨hB,hIW,k+1,by omega,by go_num,HY.out hpx⟩
    case measure=>simp[intOf];omega
   ·go_wp2;go_ret;exact⟨gG (by rw[HX.out hpx]),hB.out⟩
  ·obtain rfl:k=ls.length:=by omega
   go_wp2;go_ret;exact⟨gG (by rw[HR.out,dEg (by have:=hT.out;rwa [List.take_length] at this)]),hB.out⟩
theorem aGr(x:Bd)(id:List UInt8)(bi:Nat)(w:World)(hb:aP w bi #[.string ⟨id.toArray⟩] 9):
  Calls prog 66 #[x.v,.pointer (some ⟨bi,0,none⟩)] w fun e w'=>e=.returned (.bool (x.id==id))/\Below w.heap.size w w':=by
 have KB:=hb.below (aB w (.cells #[.string ⟨x.id.toArray⟩,.string ⟨x.ins.toArray⟩,.int .i64 x.acq,.int .i64 x.opn,.string ⟨x.q.toArray⟩,.string ⟨x.c.toArray⟩,.string ⟨x.u.toArray⟩] 49));have k0:=KB.cell 0;have HB:=Hd (aB w (.cells #[.string ⟨x.id.toArray⟩,.string ⟨x.ins.toArray⟩,.int .i64 x.acq,.int .i64 x.opn,.string ⟨x.q.toArray⟩,.string ⟨x.c.toArray⟩,.string ⟨x.u.toArray⟩] 49));clear KB hb;simp only[Bd.v];cases h:(x.id==id) with
 |true =>
  go_enter func66,ntmps66;go_wp2;go_ret;exact⟨by rw[<-h];rfl,HB.out⟩
 |false =>
  go_enter func66,ntmps66;go_wp2;go_ret;exact⟨by rw[<-h];rfl,HB.out⟩
theorem dF2(ls:List Bd)(id:List UInt8)(a:Option Addr)(cap:Nat)(w:World)(hw:Jj w a ls)(hl:ls.length<=1000000):
  Calls prog 20 #[.slice a ls.length cap,.string ⟨id.toArray⟩] w fun e w'=>e=.returned (.tuple #[.int .i64 (max (dEm (fun x=>x.id==id) ls) 0),.bool (decide (0<=dEm (fun x=>x.id==id) ls))])/\Below w.heap.size w w':=by
 have HB0:=Hd (aB w (.cells #[.string ⟨id.toArray⟩] 9));have H:=Hd (dEy 66 (.pointer (some ⟨w.heap.size,0,none⟩)) (fun x=>x.id==id) (fun W=>aP W w.heap.size #[.string ⟨id.toArray⟩] 9) (fun W W' h hb=>h.below hb) (fun args w=>MuLone.run_callFunc_enter func66 (by kernel_rfl) rfl args w) ls (fun x W _ hW=>aGr x id _ W hW) a cap _ (hw.below HB0.out) (aP.new0 w _ _) hl);clear hw;generalize dEm (fun x:Bd=>x.id==id) ls=r at *;go_enter func20,ntmps20;go_wp2_with fail;refine H.out.mono ?_;rintro e w1 ⟨rfl,hb⟩;have HB:=Hd (aA HB0.out hb);clear hb H;go_wp2;go_ret2;exact⟨rfl,HB.out⟩
end
section
open Go Go.RowKit Num
attribute [local go_sem] eW eN aV
theorem dFz(x:aLe)(w:World)(hE:iE w)(hs:x.wide):Calls prog 81 #[x.v] w fun e w'=>e=.returned (.bool x.bad)/\Below w.heap.size w w':=by
 have hr:Hid (x.bad=decide (x.err≠0)):=rfl;have HB:=Hd (aB w (.cells x.cs 42));have H:=Hd (fun W hW=>dD4 x W hW hs);have HE:=Hd hE;clear hE hs;generalize x.err=z at *;generalize x.bad=r at *;simp only[aLe.v,aLe.cs] at *
 by_cases g:z=0
 all_goals
  go_enter func81,ntmps81;go_wp2_with fail;refine(H.out _ (by first|exact HE.out|exact HE.out.below HB.out)).mono ?_;rintro e w1 ⟨rfl,hb⟩;go_wp2;go_ret;exact⟨dG (by rw[hr.out];simp[g]),by first|exact hb|exact aA HB.out hb⟩
theorem dFy(s:List UInt8)(w:World)(hl:s.length<=9223372036854775807):Calls prog 83 #[.string ⟨s.toArray⟩] w fun e w'=>e=.returned (.bool (!(dC s)))/\Below w.heap.size w w':=by
 have H:=Hd (qW s w hl);generalize dC s=b at *;clear hl;cases b
 all_goals
  go_enter func83,ntmps83;go_wp2_with fail;refine H.out.mono ?_;rintro e w1 ⟨rfl,hb⟩;go_wp2;go_ret;exact⟨rfl,hb⟩
def dEj(w:World)(a:Option Addr)(ss:List (List UInt8)):Prop:=ss=[]∨∃b,a=some ⟨b,0,none⟩/\b<w.heap.size/\∀k s,ss[k]?=some s->w.cell? ⟨b,k,none⟩=some (Pm s)
theorem dEj.below{w w':World}{a:Option Addr}{ss:List (List UInt8)}(h:dEj w a ss)(hb:Below w.heap.size w w'):dEj w' a ss:=by
 rcases h with h|⟨b,ha,hlt,hc⟩
 ·exact .inl h
 ·exact .inr ⟨b,ha,Nat.lt_of_lt_of_le hlt hb.size,fun k s hs=>(hb.cell (p:=⟨b,k,none⟩) hlt).trans (hc k s hs)⟩
theorem dEl(ss:List (List UInt8))(a:Option Addr)(cap:Nat)(w:World)(hw:dEj w a ss)(hl:ss.length<=1000000)(hs:∀s,s∈ss->s.length<=9223372036854775807):
  Calls prog 135 #[.slice a ss.length cap,.func (.func 83) #[] #[]] w fun e w'=>(∃z:Int,e=.returned (.int .i64 z)/\decide (0<=z)=ss.any fun s=>!(dC s))/\Below w.heap.size w w':=by
 have HS:=Hd hs;have HW:=Hd hw;have hen:∀(args:Array Value) (w:World),(callFunc 83 args).run prog w=.ok (.enter 83 args) w:=fun args w=>MuLone.run_callFunc_enter func83 (by kernel_rfl) rfl args w
 clear hs hw;go_enter func135,ntmps135;go_wp2;go_loopw [8] (fun i W=>Hid (Below w.heap.size w W)/\∃k:Nat,k<=ss.length/\i=.int .i64 (k:Int)/\Hid ((ss.take k).any (fun s=>!(dC s))=false)) (fun i _=>ss.length-(intOf i).toNat)
 case atStart=>exact⟨Br _ _,0,Nat.zero_le _,rfl,rfl⟩
 case round =>
  obtain⟨hB,k,hk,rfl,hT⟩:=hrel
  by_cases hlt:k<ss.length
  ·obtain⟨x,hx⟩:∃x,ss[k]?=some x:=⟨ss[k],Lg hlt⟩
   obtain⟨b,ha,k0⟩:∃b,a=some ⟨b,0,none⟩/\wr.cell? ⟨b,k,none⟩=some (Pm x):=by
    rcases HW.out.below hB.out with h|⟨b,ha,_,hc⟩
    ·rw[h] at hlt;simp at hlt
    ·exact⟨b,ha,hc k x hx⟩
   subst ha;have HX:=Hd (fun h=>aMw (p:=fun s=>!(dC s)) hx h);have HY:=Hd (fun h=>aL2 (p:=fun s=>!(dC s)) hx hT.out h);have HP:=Hd (fun W=>dFy x W (HS.out x (List.mem_of_getElem? hx)));clear hx;generalize(!(dC x))=px at *;go_wp2_with fail;refine(HP.out _).mono ?_;rintro e w1 ⟨rfl,hb⟩;have hB:=Hd (aA hB.out hb);clear k0 hb;cases px
   ·go_wp2;go_round
    case rel=>exact⟨hB,k+1,by omega,by go_num,HY.out (by simp)⟩
    case measure=>simp[intOf];omega
   ·go_wp2;go_ret;exact⟨⟨(k:Int),rfl,by rw[HX.out (by simp)];simp⟩,hB.out⟩
  ·obtain rfl:k=ss.length:=by omega
   go_wp2;go_ret;exact⟨⟨-1,rfl,by have:=hT.out;rw[List.take_length] at this;rw[this];rfl⟩,hB.out⟩
theorem dD6(ss:List (List UInt8))(a:Option Addr)(cap:Nat)(w:World)(hw:dEj w a ss)(hl:ss.length<=1000000)(hs:∀s,s∈ss->s.length<=9223372036854775807):
  Calls prog 82 #[.slice a ss.length cap,.func (.func 83) #[] #[]] w fun e w'=>e=.returned (.bool (ss.any fun s=>!(dC s)))/\Below w.heap.size w w':=by
 have H:=Hd (dEl ss a cap w hw hl hs);clear hw hs;go_enter func82,ntmps82;go_wp2_with fail;refine H.out.mono ?_;rintro e w1 ⟨⟨z,rfl,hz⟩,hb⟩;have HZ:=Hd hz;clear hz
 by_cases g0:0<=z
 all_goals
  go_wp2;go_ret;exact⟨dG (by rw[<-HZ.out];try simp[g0]),hb⟩
def dEk(ls:List Bd)(gs:List aLe)(d wash:Int)(ss:List (List UInt8)):Int :=
 if aO6 ls≠0∨gs.any aLe.bad=true then 1 else if(ss.any fun s=>!(dC s))=true then 23 else if d < -25567∨84005<d then 13 else if wash<0∨366<wash then 2 else 0
theorem dGi(ls:List Bd)(gs:List aLe)(la:Option Addr)(lc:Nat)(ga:Option Addr)(gc:Nat)(d wash:Int)(ss:List (List UInt8))(sa:Option Addr)(sc:Nat)(w:World)(hE:iE w)(hl:ls.length<=1000000)(hls:∀x,x∈ls->x.small)(hg:gs.length<=1000000)(hgs:∀x,x∈gs->x.wide)
  (hs:ss.length<=1000000) (hss:∀s,s∈ss->s.length<=9223372036854775807) (hL:Jj w la ls) (hG:aL3 w ga gs) (hS:dEj w sa ss) :
  Calls prog 40 #[.slice la ls.length lc,.slice ga gs.length gc,.int .i64 d,.int .i64 wash,.slice sa ss.length sc] w fun e w'=>e=.returned (.int .i64 (dEk ls gs d wash ss))/\Below w.heap.size w w':=by
 have H1:=Hd (dAu ls la lc w hE hl hL hls);have H2:=Hd (fun W (hb:Below w.heap.size w W)=>aMp 81 aLe.bad (fun args w=>MuLone.run_callFunc_enter func81 (by kernel_rfl) rfl args w) gs ga gc W (hE.below hb) (fun x W hx hW=>dFz x W hW (hgs x hx)) (hG.below hb) hg);have H3:=Hd (fun W (hb:Below w.heap.size w W)=>dD6 ss sa sc W (hS.below hb) hs hss);have HR:Hid (dEk ls gs d wash ss=if aO6 ls≠0∨gs.any aLe.bad=true then 1 else if(ss.any fun s=>!(dC s))=true then 23 else if d < -25567∨84005<d then 13 else if wash<0∨366<wash then 2 else 0):=rfl;clear hE hls hgs hss hL hG hS;generalize dEk ls gs d wash ss=r at *;generalize aO6 ls=le at *;generalize gs.any aLe.bad=gb at *;generalize(ss.any fun s=>!(dC s))=sb at *;generalize ls.length=ln at *;generalize gs.length=gn at *;generalize ss.length=sn at *
 by_cases c1:le=0
 case neg =>
  have HV:Hid (r=1):=by show _=_;rw[HR.out,if_pos (.inl c1)]
  have c1':(le != 0)=true:=by simpa using c1
  clear HR H2 H3;go_enter func40,ntmps40;go_wp2_with fail;refine H1.out.mono ?_;rintro e w1 ⟨rfl,hb⟩;have HB:=Hd hb;clear hb H1;go_wp2;go_ret;exact⟨gG HV.out.symm,HB.out⟩
 subst c1;cases gb
 case true =>
  have HV:Hid (r=1):=by show _=_;rw[HR.out,if_pos (.inr rfl)]
  clear HR H3;go_enter func40,ntmps40;go_wp2_with fail;refine H1.out.mono ?_;rintro e w1 ⟨rfl,hb⟩;have HB:=Hd hb;clear hb H1;go_wp2_with fail;refine(H2.out _ HB.out).mono ?_;rintro e w2 ⟨rfl,hb⟩;have HB:=Hd (aA HB.out hb);clear hb H2;go_wp2;go_ret;exact⟨gG HV.out.symm,HB.out⟩
 cases sb
 case true =>
  have HV:Hid (r=23):=by show _=_;rw[HR.out,if_neg (by simp),if_pos rfl]
  clear HR;go_enter func40,ntmps40;go_wp2_with fail;refine H1.out.mono ?_;rintro e w1 ⟨rfl,hb⟩;have HB:=Hd hb;clear hb H1;go_wp2_with fail;refine(H2.out _ HB.out).mono ?_;rintro e w2 ⟨rfl,hb⟩;have HB:=Hd (aA HB.out hb);clear hb H2;go_wp2_with fail;refine(H3.out _ HB.out).mono ?_;rintro e w3 ⟨rfl,hb⟩;have HB:=Hd (aA HB.out hb);clear hb H3;go_wp2;go_ret;exact⟨gG HV.out.symm,HB.out⟩
 have HR:Hid (r=if d < -25567∨84005<d then 13 else if wash<0∨366<wash then 2 else 0):=by show _=_;rw[HR.out,if_neg (by simp),if_neg (by simp)]
 by_cases d1:d < -25567 <;> by_cases d2:84005<d <;> by_cases d3:wash<0 <;> by_cases d4:366<wash
 all_goals first|omega|skip
 all_goals
  go_enter func40,ntmps40;go_wp2_with fail;refine H1.out.mono ?_;rintro e w1 ⟨rfl,hb⟩;have HB:=Hd hb;clear hb;go_wp2_with fail;refine(H2.out _ HB.out).mono ?_;rintro e w2 ⟨rfl,hb⟩;have HB:=Hd (aA HB.out hb);clear hb;go_wp2_with fail;refine(H3.out _ HB.out).mono ?_;rintro e w3 ⟨rfl,hb⟩;have HB:=Hd (aA HB.out hb);clear hb;go_wp2;go_ret;exact⟨gG (by rw[HR.out];(repeat' split) <;> omega),HB.out⟩
end
section
open Go Go.RowKit Num
attribute [local go_sem] eW eN aV
theorem cmpI_gtW(a b:Int):0<bG a b↔b<a:=by
 unfold bG;split
 ·omega
 ·split <;> omega
theorem dFq(x:aLe)(w:World)(hE:iE w)(h1:x.p.length<=1000)(h2:x.c.length<=1000):
  Calls prog 87 #[x.v] w fun e w'=>e=.returned (.string ⟨(aJ x.loss).toArray⟩)/\Below w.heap.size w w':=by
 have hr:Hid (x.loss=if val x.c-val x.p<0 then 0 else val x.c-val x.p):=rfl;have hln:=Np (l:=x.c) (m:=x.p) (K:=1000) h2 h1;have H1:=Hd (fun W hW=>aAd x.c x.p W hW (by omega) (by omega));have H2:=Hd (fun W=>aPb (aJ (val x.c-val x.p)) W (by omega));rw[bE] at H2;have HE:=Hd hE;clear hE hln;generalize x.loss=r at *;generalize val x.c-val x.p=z at *;have HC:=Hd (cmpI_gtW z 0);generalize bG z 0=cz at *;have HB:=Hd (aB w (.cells x.cs 42));simp only[aLe.v,aLe.cs] at *
 by_cases g:0<cz
 ·have hr2:Hid (aJ r=aJ z):=by show _=_;rw[hr.out,if_neg (by have:=HC.out.1 g;omega)]
  clear hr;generalize aJ r=cr at *;generalize aJ z=cq at *;go_enter func87,ntmps87;go_wp2_with fail;refine(H1.out _ (HE.out.below HB.out)).mono ?_;rintro e w1 ⟨rfl,hb⟩;have HB:=Hd (aA HB.out hb);clear hb;go_wp2_with fail;refine(H2.out _).mono ?_;rintro e w2 ⟨rfl,hb⟩;have HB:=Hd (aA HB.out hb);clear hb;go_wp2;go_ret;exact⟨dW (by rw[hr2.out];rfl),HB.out⟩
 ·have hr2:Hid (r=0):=by
   show _=_;have hz:¬ 0<z:=fun h=>g (HC.out.2 h)
   rw[hr.out];split
   ·rfl
   ·omega
  clear hr;generalize aJ z=cq at *;go_enter func87,ntmps87;go_wp2_with fail;refine(H1.out _ (HE.out.below HB.out)).mono ?_;rintro e w1 ⟨rfl,hb⟩;have HB:=Hd (aA HB.out hb);clear hb;go_wp2_with fail;refine(H2.out _).mono ?_;rintro e w2 ⟨rfl,hb⟩;have HB:=Hd (aA HB.out hb);clear hb;go_wp2;go_ret;exact⟨dW (by rw[hr2.out,nA];rfl),HB.out⟩
theorem dFp(x:aLe)(w:World)(hE:iE w)(h0:x.q.length<=1000)(h1:x.p.length<=1000)(h2:x.c.length<=1000)(h3:x.rp.length<=1000):
  Calls prog 68 #[x.v] w fun e w'=>e=.returned (.string ⟨(aJ x.openV).toArray⟩)/\Below w.heap.size w w':=by
 have hr:Hid (x.openV=if x.loss=0 then 0 else val x.q-val x.rp):=rfl;have H1:=Hd (fun W hW=>dFq x W hW h1 h2);have H2:=Hd (fun W hW=>aAd x.q x.rp W hW (by omega) (by omega));have HE:=Hd hE;have hz:=aQz x.loss;clear hE;generalize x.openV=r at *;generalize val x.q-val x.rp=z at *;generalize x.loss=ls at *;generalize aJ ls=cl at *;have HB:=Hd (aB w (.cells x.cs 42));have KX:=Hd (aP.new0 w x.cs 42);simp only[aLe.v,aLe.cs] at *
 by_cases g:ls=0
 ·have hr2:Hid (r=0):=by show _=_;rw[hr.out,if_pos g]
  rw[decide_eq_true g] at hz;clear hr;go_enter func68,ntmps68;go_wp2_with fail;refine(H1.out _ (HE.out.below HB.out)).mono ?_;rintro e w1 ⟨rfl,hb⟩;have HB:=Hd (aA HB.out hb);clear hb;go_wp2;go_ret;exact⟨dW (by rw[hr2.out,nA];rfl),HB.out⟩
 ·have hr2:Hid (aJ r=aJ z):=by show _=_;rw[hr.out,if_neg g]
  rw[decide_eq_false g] at hz;clear hr;generalize aJ r=cr at *;generalize aJ z=cq at *;go_enter func68,ntmps68;go_wp2_with fail;refine(H1.out _ (HE.out.below HB.out)).mono ?_;rintro e w1 ⟨rfl,hb⟩;have HB:=Hd (aA HB.out hb);have KB:=KX.out.below hb;clear hb;have q5:=KB.cell 5;have q9:=KB.cell 9;go_wp2_with fail;refine(H2.out _ (HE.out.below HB.out)).mono ?_;rintro e w2 ⟨rfl,hb⟩;have HB:=Hd (aA HB.out hb);clear hb;go_wp2;go_ret;exact⟨dW (by rw[hr2.out];rfl),HB.out⟩
theorem dFo(y:Bd)(w:World)(hE:iE w)(h1:y.q.length<=1000)(h2:y.u.length<=1000):
  Calls prog 75 #[y.v] w fun e w'=>e=.returned (.string ⟨(aJ y.roomV).toArray⟩)/\Below w.heap.size w w':=by
 have hr:Hid (y.roomV=val y.q-val y.u):=rfl;have H1:=Hd (fun W hW=>aAd y.q y.u W hW (by omega) (by omega));have HE:=Hd hE;rw[<-hr.out] at H1;clear hE hr;generalize aJ y.roomV=r at *;have HB:=Hd (aB w (.cells #[.string ⟨y.id.toArray⟩,.string ⟨y.ins.toArray⟩,.int .i64 y.acq,.int .i64 y.opn,.string ⟨y.q.toArray⟩,.string ⟨y.c.toArray⟩,.string ⟨y.u.toArray⟩] 49));simp only[Bd.v] at *;go_enter func75,ntmps75;go_wp2_with fail;refine(H1.out _ (HE.out.below HB.out)).mono ?_;rintro e w1 ⟨rfl,hb⟩;go_wp2;go_ret;exact⟨rfl,aA HB.out hb⟩
theorem dFr(n:Int)(w:World):Calls prog 124 #[.int .i64 n] w fun e w'=>e=.returned (.int .i64 n)/\w=w':=by
 go_enter func124,ntmps124;go_wp2;go_ret;exact⟨rfl,rfl⟩
end
end Go.Proofs.YtiloklnjjfaagaaGreatDoor
