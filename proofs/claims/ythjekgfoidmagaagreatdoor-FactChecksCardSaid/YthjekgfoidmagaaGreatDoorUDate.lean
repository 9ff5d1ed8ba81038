/- Date Ref06 Hold Post Seen -/
import Derived.Test.YthjekgfoidmagaaGreatDoorUNum
set_option maxHeartbeats 16000000
set_option maxRecDepth 100000
section
namespace Go.Proofs.YthjekgfoidmagaaGreatDoor.Dt
open Tryz
open Go.RowKit
theorem leap_any(y:Int)(w:World)(h0:0<=y)(h1:y<=100000):
  Calls prog 204 #[.int .i64 y] w fun e w'=>e=.returned (.bool (Cal.leap y))/\w=w':=by
 go_enter func204,ntmps204;go_wp2
 all_goals
  go_ret;exact⟨dG (by simp[Cal.leap, *]),rfl⟩
theorem aN4(y:Int)(w:World)(h0:0<=y)(h1:y<=100000):
  Calls prog 137 #[.int .i64 y,.int .i64 2] w fun e w'=>e=.returned (.int .i64 (Cal.dim y 2))/\Below w.heap.size w w':=by
 go_enter func137,ntmps137;go_wp2_with (go_at_call 204;refine(leap_any _ _ (by omega) (by omega)).mono ?_;rintro e w' ⟨rfl,rfl⟩)
 all_goals
  go_ret;exact⟨gG (by simp[Cal.dim,Cal.lp, *]),(Br _ _).alloc (Nl _) _⟩
theorem aN5(y:Int)(w:World):
  Calls prog 137 #[.int .i64 y,.int .i64 1] w fun e w'=>e=.returned (.int .i64 (Cal.dim y 1))/\Below w.heap.size w w':=by
 go_enter func137,ntmps137;go_wp2;go_ret;exact⟨gG (by simp[Cal.dim]),(Br _ _).alloc (Nl _) _⟩
theorem aN3(y:Int)(w:World):
  Calls prog 137 #[.int .i64 y,.int .i64 3] w fun e w'=>e=.returned (.int .i64 (Cal.dim y 3))/\Below w.heap.size w w':=by
 go_enter func137,ntmps137;go_wp2;go_ret;exact⟨gG (by simp[Cal.dim]),(Br _ _).alloc (Nl _) _⟩
theorem aN2(y:Int)(w:World):
  Calls prog 137 #[.int .i64 y,.int .i64 4] w fun e w'=>e=.returned (.int .i64 (Cal.dim y 4))/\Below w.heap.size w w':=by
 go_enter func137,ntmps137;go_wp2;go_ret;exact⟨gG (by simp[Cal.dim]),(Br _ _).alloc (Nl _) _⟩
theorem aN1(y:Int)(w:World):
  Calls prog 137 #[.int .i64 y,.int .i64 5] w fun e w'=>e=.returned (.int .i64 (Cal.dim y 5))/\Below w.heap.size w w':=by
 go_enter func137,ntmps137;go_wp2;go_ret;exact⟨gG (by simp[Cal.dim]),(Br _ _).alloc (Nl _) _⟩
theorem aN0(y:Int)(w:World):
  Calls prog 137 #[.int .i64 y,.int .i64 6] w fun e w'=>e=.returned (.int .i64 (Cal.dim y 6))/\Below w.heap.size w w':=by
 go_enter func137,ntmps137;go_wp2;go_ret;exact⟨gG (by simp[Cal.dim]),(Br _ _).alloc (Nl _) _⟩
theorem aNz(y:Int)(w:World):
  Calls prog 137 #[.int .i64 y,.int .i64 7] w fun e w'=>e=.returned (.int .i64 (Cal.dim y 7))/\Below w.heap.size w w':=by
 go_enter func137,ntmps137;go_wp2;go_ret;exact⟨gG (by simp[Cal.dim]),(Br _ _).alloc (Nl _) _⟩
theorem aNy(y:Int)(w:World):
  Calls prog 137 #[.int .i64 y,.int .i64 8] w fun e w'=>e=.returned (.int .i64 (Cal.dim y 8))/\Below w.heap.size w w':=by
 go_enter func137,ntmps137;go_wp2;go_ret;exact⟨gG (by simp[Cal.dim]),(Br _ _).alloc (Nl _) _⟩
theorem aNx(y:Int)(w:World):
  Calls prog 137 #[.int .i64 y,.int .i64 9] w fun e w'=>e=.returned (.int .i64 (Cal.dim y 9))/\Below w.heap.size w w':=by
 go_enter func137,ntmps137;go_wp2;go_ret;exact⟨gG (by simp[Cal.dim]),(Br _ _).alloc (Nl _) _⟩
theorem aNg(y:Int)(w:World):
  Calls prog 137 #[.int .i64 y,.int .i64 10] w fun e w'=>e=.returned (.int .i64 (Cal.dim y 10))/\Below w.heap.size w w':=by
 go_enter func137,ntmps137;go_wp2;go_ret;exact⟨gG (by simp[Cal.dim]),(Br _ _).alloc (Nl _) _⟩
theorem aNf(y:Int)(w:World):
  Calls prog 137 #[.int .i64 y,.int .i64 11] w fun e w'=>e=.returned (.int .i64 (Cal.dim y 11))/\Below w.heap.size w w':=by
 go_enter func137,ntmps137;go_wp2;go_ret;exact⟨gG (by simp[Cal.dim]),(Br _ _).alloc (Nl _) _⟩
theorem aNe(y:Int)(w:World):
  Calls prog 137 #[.int .i64 y,.int .i64 12] w fun e w'=>e=.returned (.int .i64 (Cal.dim y 12))/\Below w.heap.size w w':=by
 go_enter func137,ntmps137;go_wp2;go_ret;exact⟨gG (by simp[Cal.dim]),(Br _ _).alloc (Nl _) _⟩
theorem length_any(y m:Int)(w:World)(h0:0<=y)(h1:y<=100000)(h2:1<=m)(h3:m<=12):
  Calls prog 137 #[.int .i64 y,.int .i64 m] w fun e w'=>e=.returned (.int .i64 (Cal.dim y m))/\Below w.heap.size w w' :=
 Cal.months (P:=fun m=>Calls prog 137 #[.int .i64 y,.int .i64 m] w fun e w'=>e=.returned (.int .i64 (Cal.dim y m))/\Below w.heap.size w w') m h2 h3
  (aN5 y w) (aN4 y w h0 h1) (aN3 y w) (aN2 y w) (aN1 y w) (aN0 y w) (aNz y w) (aNy y w) (aNx y w) (aNg y w) (aNf y w) (aNe y w)
theorem aNj(y:Int)(w:World)(h0:1<=y)(h1:y<=100000):
  Calls prog 138 #[.int .i64 y] w fun e w'=>e=.returned (.int .i64 (Cal.dby y))/\w=w':=by
 go_enter func138,ntmps138;go_wp2;go_ret;exact⟨gG (by unfold Cal.dby;omega),rfl⟩
theorem aMr(d:Int)(w:World):
  Calls prog 176 #[.int .i64 d] w fun e w'=>e=.returned (.bool (decide (-25567<=d/\d<=84005)))/\w=w':=by
 by_cases h0:-25567<=d <;> by_cases h1:d<=84005
 all_goals
  go_enter func176,ntmps176;go_wp2;go_ret;exact⟨dG (by simp;omega),rfl⟩
theorem aPh(y m d:Int)(w:World)(hb:-9223372036854775808<=y)(hy:y<=100000)(h:¬ Cal.Valid y m d):
  Calls prog 85 #[.int .i64 y,.int .i64 m,.int .i64 d] w fun e w'=>e=.returned (.tuple #[.int .i64 0,.int .i64 13])/\Below w.heap.size w w':=by
 unfold Cal.Valid at h
 by_cases a1:y<1900
 ·go_enter func85,ntmps85;go_wp2;go_ret2;exact⟨rfl,Br _ _⟩
 by_cases a2:2199<y
 ·go_enter func85,ntmps85;go_wp2;go_ret2;exact⟨rfl,Br _ _⟩
 by_cases a3:m<1
 ·go_enter func85,ntmps85;go_wp2;go_ret2;exact⟨rfl,Br _ _⟩
 by_cases a4:12<m
 ·go_enter func85,ntmps85;go_wp2;go_ret2;exact⟨rfl,Br _ _⟩
 by_cases a5:d<1
 ·go_enter func85,ntmps85;go_wp2;go_ret2;exact⟨rfl,Br _ _⟩
 have a6:Cal.dim y m<d:=by omega
 clear h;go_enter func85,ntmps85;go_wp2_with (go_at_call 137;refine(length_any _ _ _ (by omega) (by omega) (by omega) (by omega)).mono ?_;rintro e w' ⟨rfl,hb1⟩);go_ret2;exact⟨rfl,hb1⟩
theorem of_yes(y m d:Int)(w:World)(h:Cal.Valid y m d):
  Calls prog 85 #[.int .i64 y,.int .i64 m,.int .i64 d] w fun e w'=>e=.returned (.tuple #[.int .i64 (Cal.num y m d-25567),.int .i64 0])/\Below w.heap.size w w':=by
 obtain⟨h1,h2,h3,h4,h5,h6⟩:=h;have hd:=Cal.dim_bd y m;have hb:=Cal.dby_bd y h1 (by omega);go_enter func85,ntmps85;go_wp2_with (first|(go_at_call 137;refine(length_any _ _ _ (by omega) (by omega) (by omega) (by omega)).mono ?_;rintro e w1 ⟨rfl,hb1⟩)|(go_at_call 138;refine(aNj _ _ (by omega) (by omega)).mono ?_;rintro e w' ⟨rfl,rfl⟩));go_loopw [8,9] (fun n i wr=>∃k:Int,1<=k/\k<=m/\i=.int .i64 k/\n=.int .i64 (Cal.dby y+Cal.cum y k+d-1)/\Below w.heap.size w wr) (fun _ i _=>(12-intOf i).toNat)
 case atStart=>exact⟨1,by omega,by omega,rfl,by rw[Cal.cum_1,Int.add_zero],hb1⟩
 case round =>
  obtain⟨k,hk1,hk2,rfl,rfl,hbr⟩:=hrel;have cb:=Cal.cum_bd y k hk1 (by omega);have db:=Cal.dim_bd y k
  by_cases hlt:k<m
  ·have cs:=Hd (Cal.cum_succ y k hk1 (by omega));go_wp2_with (go_at_call 137;refine(length_any _ _ _ (by omega) (by omega) (by omega) (by omega)).mono ?_;rintro e w2 ⟨rfl,hb2⟩);go_roundw
   case rel=>exact⟨k+1,by omega,by omega,rfl,by rw[cs.out];go_num,aA hbr hb2⟩
   case measure=>simp[intOf];omega
  ·have hkm:k=m:=by omega
   subst hkm;go_wp2;go_ret2;exact⟨by rw[show Cal.num y k d=Cal.dby y+Cal.cum y k+d-1 from rfl];simp;omega,hbr⟩
theorem aOq(n y m:Int)(h1:1900<=y)(h2:y<=2199)(h3:1<=m)(h4:m<=12)(h5:0<=n-Cal.dby y-Cal.cum y m)(h6:n-Cal.dby y-Cal.cum y m<Cal.dim y m):
  Cal.civ n=(y,m,n-Cal.dby y-Cal.cum y m+1) :=
 Cal.civ_of ⟨h1,h2,h3,h4,by omega,by omega⟩ (by unfold Cal.num;omega)
theorem aOp{n y m d:Int}(h:Cal.civ n=(y,m,d)):Ending.returned (.tuple #[.int .i64 y,.int .i64 m,.int .i64 d,.int .i64 0]) =
  Ending.returned (.tuple #[.int .i64 (Cal.civ n).1,.int .i64 (Cal.civ n).2.1,.int .i64 (Cal.civ n).2.2,.int .i64 0]):=by rw[h]
theorem parts_yes(d:Int)(w:World)(h0:-25567<=d)(h1:d<=84005):
  Calls prog 115 #[.int .i64 d] w fun e w'=>e=.returned (.tuple #[.int .i64 (Cal.civ (d+25567)).1,.int .i64 (Cal.civ (d+25567)).2.1,.int .i64 (Cal.civ (d+25567)).2.2,.int .i64 0])/\Below w.heap.size w w':=by
 have hf:decide (-25567<=d/\d<=84005)=true:=by simp;omega
 have hv:∀W,Calls prog 176 #[.int .i64 d] W fun e w'=>e=.returned (.bool true)/\W=w':=fun W=>by have:=aMr d W;rwa [hf] at this
 have H:=Hd hv;clear hv hf;obtain⟨n,hn⟩:∃n,n=d+25567:=⟨_,rfl⟩
 rw[<-hn];obtain rfl:d=n-25567:=by omega
 clear hn;have g0:=Cal.dby_guess n (by omega);have em:=Hd Cal.dby_2200;go_enter func115,ntmps115;go_wp2_with (go_at_call 176;refine(H.out _).mono ?_;rintro e w' ⟨rfl,rfl⟩);go_loop [7] (fun t=>∃y:Int,1900<=y/\y<=2199/\Cal.dby y<=n/\t=.int .i64 y) (fun t=>(2199-intOf t).toNat)
 case atStart=>exact⟨_,by omega,by omega,g0,rfl⟩
 case round =>
  obtain⟨y,hy1,hy2,hy3,rfl⟩:=hrel
  by_cases hc:Cal.dby (y+1)<=n
  ·have hlt:y<2199:=by
    rcases Int.lt_or_le y 2199 with h|h
    ·exact h
    ·have e2:y=2199:=by omega
     subst e2;have:=em.out;rw[show (2199:Int)+1=2200 by omega] at hc;omega
   go_wp2_with (go_at_call 138;refine(aNj _ _ (by omega) (by omega)).mono ?_;rintro e w' ⟨rfl,rfl⟩);go_round
   case rel=>exact⟨y+1,by omega,by omega,hc,rfl⟩
   case measure=>simp[intOf];omega
  ·have hz:n<Cal.dby (y+1):=by omega
   have hb:=Cal.dby_bd y hy1 (by omega);have hs:=Hd (Cal.dby_succ y);have hl:=Cal.lp_01 y;clear hc g0;go_wp2_with (go_at_call 138;refine(aNj _ _ (by omega) (by omega)).mono ?_;rintro e w' ⟨rfl,rfl⟩);go_loopw [6,8] (fun r k wr=>∃m:Int,1<=m/\m<=12/\k=.int .i64 m/\0<=n-Cal.dby y-Cal.cum y m/\r=.int .i64 (n-Cal.dby y-Cal.cum y m)/\Below w.heap.size w wr) (fun _ k _=>(12-intOf k).toNat)
   case atStart=>exact⟨1,by omega,by omega,rfl,by rw[Cal.cum_1];omega,by rw[Cal.cum_1,Int.sub_zero],Br _ _⟩
   case round =>
    obtain⟨m,hm1,hm2,rfl,hr,rfl,hbr⟩:=hrel;have cb:=Cal.cum_bd y m hm1 (by omega);have db:=Cal.dim_bd y m;have cs:=Hd (Cal.cum_succ y m hm1 hm2);have c13:=Hd (Cal.cum_13 y)
    by_cases hc:Cal.dim y m<=n-Cal.dby y-Cal.cum y m
    ·have hm:m<12:=by
      rcases Int.lt_or_le m 12 with h|h
      ·exact h
      ·have e2:m=12:=by omega
       subst e2;have a:=cs.out;have b:=c13.out;have c:=hs.out;rw[show (12:Int)+1=13 by omega] at a;omega
     go_wp2_with (go_at_call 137;refine(length_any _ _ _ (by omega) (by omega) (by omega) (by omega)).mono ?_;rintro e w2 ⟨rfl,hb2⟩);go_roundw
     case rel=>exact⟨m+1,by omega,by omega,rfl,by rw[cs.out];omega,by rw[cs.out];go_num,aA (aA hbr (by assumption)) (by assumption)⟩
     case measure=>simp[intOf];omega
    ·have hv:n-Cal.dby y-Cal.cum y m<Cal.dim y m:=by omega
     clear hc;go_wp2_with (go_at_call 137;refine(length_any _ _ _ (by omega) (by omega) (by omega) (by omega)).mono ?_;rintro e w2 ⟨rfl,hb2⟩);refine bodyPost_ret (aNm rfl _ _ _) rfl ?_;exact⟨aOp (aOq n y m hy1 hy2 hm1 hm2 hr hv),aA hbr hb2⟩
end Go.Proofs.YthjekgfoidmagaaGreatDoor.Dt
end
section
namespace Go.Proofs.YthjekgfoidmagaaGreatDoor.Ref06
open Tryz
open Go.RowKit Dt
theorem leap_any(y:Int)(w:World)(h0:0<=y)(h1:y<=100000):
  Calls prog 183 #[.int .i64 y] w fun e w'=>e=.returned (.bool (Cal.leap y))/\w=w':=by
 go_enter func183,ntmps183;go_wp2
 all_goals
  go_ret;refine⟨dG ?_,rfl⟩;rw[Bool.eq_iff_iff,Cal.leap_iff];simp
  try omega
theorem length_any(y m:Int)(w:World)(h0:0<=y)(h1:y<=100000):
  Calls prog 184 #[.int .i64 y,.int .i64 m] w fun e w'=>e=.returned (.int .i64 (Cal.dim y m))/\w=w':=by
 by_cases h2:m=2
 ·subst h2;go_enter func184,ntmps184;go_wp2_with (go_at_call 183;refine(leap_any _ _ (by omega) (by omega)).mono ?_;rintro e w' ⟨rfl,rfl⟩)
  all_goals
   go_ret;exact⟨gG (by simp[Cal.dim,Cal.lp, *]),rfl⟩
 by_cases h4:m=4
 ·subst h4;go_enter func184,ntmps184;go_wp2;go_ret;exact⟨gG (by simp[Cal.dim]),rfl⟩
 by_cases h6:m=6
 ·subst h6;go_enter func184,ntmps184;go_wp2;go_ret;exact⟨gG (by simp[Cal.dim]),rfl⟩
 by_cases h9:m=9
 ·subst h9;go_enter func184,ntmps184;go_wp2;go_ret;exact⟨gG (by simp[Cal.dim]),rfl⟩
 by_cases h11:m=11
 ·subst h11;go_enter func184,ntmps184;go_wp2;go_ret;exact⟨gG (by simp[Cal.dim]),rfl⟩
 have hd:=Hd (show Cal.dim y m=31 by unfold Cal.dim;rw[if_neg h2,if_neg (by omega)]);have b2:(m==2)=false:=by simp[h2]
 have b4:(m==4)=false:=by simp[h4]
 have b6:(m==6)=false:=by simp[h6]
 have b9:(m==9)=false:=by simp[h9]
 have b11:(m==11)=false:=by simp[h11]
 go_enter func184,ntmps184;go_wp2;go_ret;exact⟨gG hd.out.symm,rfl⟩
theorem aLh(d:Int)(w:World)(h0:-25567<=d)(h1:d<=84005):
  Calls prog 39 #[.int .i64 d] w fun e w'=>e=.returned (.int .i64 0)/\w=w':=by
 go_enter func39,ntmps39;go_wp2;go_ret;exact⟨rfl,rfl⟩
theorem parts_yes(d:Int)(w:World)(h0:-25567<=d)(h1:d<=84005):
  Calls prog 123 #[.int .i64 d] w fun e w'=>e=.returned (.tuple #[.int .i64 (Cal.civ (d+25567)).1,.int .i64 (Cal.civ (d+25567)).2.1,.int .i64 (Cal.civ (d+25567)).2.2,.int .i64 0])/\w=w':=by
 obtain⟨n,hn⟩:∃n,n=d+25567:=⟨_,rfl⟩
 rw[<-hn];obtain rfl:d=n-25567:=by omega
 clear hn;have em:=Hd Cal.dby_2200;have e0:=Hd Cal.dby_1900;go_enter func123,ntmps123;go_wp2_with (go_at_call 39;refine(aLh _ _ (by omega) (by omega)).mono ?_;rintro e w' ⟨rfl,rfl⟩);go_loop [6,7,9] (fun r t _=>∃y:Int,1900<=y/\y<=2199/\0<=n-Cal.dby y/\r=.int .i64 (n-Cal.dby y)/\t=.int .i64 y) (fun _ t _=>(2199-intOf t).toNat)
 case atStart=>exact⟨1900,by omega,by omega,by rw[e0.out];omega,by rw[e0.out,Int.sub_zero],rfl⟩
 case round =>
  obtain⟨y,hy1,hy2,hy3,rfl,rfl⟩:=hrel;have hs:=Hd (Cal.dby_succ y);have hb:=Cal.dby_bd y hy1 (by omega)
  by_cases hlp:Cal.leap y=true
  ·have hl:=Hd (show Cal.lp y=1 by unfold Cal.lp;rw[if_pos hlp]);have HL:=Hd (fun W=>show Calls prog 183 #[.int .i64 y] W fun e w'=>e=.returned (.bool true)/\W=w' by have:=leap_any y W (by omega) (by omega);rwa [hlp] at this);clear hlp
   by_cases hc:n-Cal.dby y<366
   ·go_wp2_with (go_at_call 183;refine(HL.out _).mono ?_;rintro e w' ⟨rfl,rfl⟩);go_loop [6,8] (fun r k=>∃m:Int,1<=m/\m<=12/\k=.int .i64 m/\0<=n-Cal.dby y-Cal.cum y m/\r=.int .i64 (n-Cal.dby y-Cal.cum y m)) (fun _ k=>(12-intOf k).toNat)
    case atStart=>exact⟨1,by omega,by omega,rfl,by rw[Cal.cum_1];omega,by rw[Cal.cum_1,Int.sub_zero]⟩
    case round =>
     obtain⟨m,hm1,hm2,rfl,hr,rfl⟩:=hrel;have cb:=Cal.cum_bd y m hm1 (by omega);have db:=Cal.dim_bd y m;have cs:=Hd (Cal.cum_succ y m hm1 hm2);have c13:=Hd (Cal.cum_13 y)
     by_cases hd:Cal.dim y m<=n-Cal.dby y-Cal.cum y m
     ·have hm:m<12:=by
       rcases Int.lt_or_le m 12 with h|h
       ·exact h
       ·have e2:m=12:=by omega
        subst e2;have a:=cs.out;have b:=c13.out;have c:=hl.out;rw[show (12:Int)+1=13 by omega] at a;omega
      go_wp2_with (go_at_call 184;refine(length_any _ _ _ (by omega) (by omega)).mono ?_;rintro e w2 ⟨rfl,rfl⟩);go_round
      case rel=>exact⟨m+1,by omega,by omega,rfl,by rw[cs.out];omega,by rw[cs.out];go_num⟩
      case measure=>simp[intOf];omega
     ·have hv:n-Cal.dby y-Cal.cum y m<Cal.dim y m:=by omega
      clear hd;go_wp2_with (go_at_call 184;refine(length_any _ _ _ (by omega) (by omega)).mono ?_;rintro e w2 ⟨rfl,rfl⟩);refine bodyPost_ret (aNm rfl _ _ _) rfl ?_;exact⟨aOp (aOq n y m hy1 hy2 hm1 hm2 hr hv),rfl⟩
   ·have hlt:y<2199:=by
     rcases Int.lt_or_le y 2199 with h|h
     ·exact h
     ·have e2:y=2199:=by omega
      subst e2;have a:=em.out;have b:=hs.out;have c:=hl.out;rw[show (2199:Int)+1=2200 by omega] at b;omega
    go_wp2_with (go_at_call 183;refine(HL.out _).mono ?_;rintro e w' ⟨rfl,rfl⟩);go_round
    case rel=>exact⟨y+1,by omega,by omega,by rw[hs.out,hl.out];omega,by rw[hs.out,hl.out];go_num,rfl⟩
    case measure=>simp[intOf];omega
  ·have hl:=Hd (show Cal.lp y=0 by unfold Cal.lp;rw[if_neg hlp]);have hlp':Cal.leap y=false:=by simpa using hlp
   have HL:=Hd (fun W=>show Calls prog 183 #[.int .i64 y] W fun e w'=>e=.returned (.bool false)/\W=w' by have:=leap_any y W (by omega) (by omega);rwa [hlp'] at this);clear hlp hlp'
   by_cases hc:n-Cal.dby y<365
   ·go_wp2_with (go_at_call 183;refine(HL.out _).mono ?_;rintro e w' ⟨rfl,rfl⟩);go_loop [6,8] (fun r k=>∃m:Int,1<=m/\m<=12/\k=.int .i64 m/\0<=n-Cal.dby y-Cal.cum y m/\r=.int .i64 (n-Cal.dby y-Cal.cum y m)) (fun _ k=>(12-intOf k).toNat)
    case atStart=>exact⟨1,by omega,by omega,rfl,by rw[Cal.cum_1];omega,by rw[Cal.cum_1,Int.sub_zero]⟩
    case round =>
     obtain⟨m,hm1,hm2,rfl,hr,rfl⟩:=hrel;have cb:=Cal.cum_bd y m hm1 (by omega);have db:=Cal.dim_bd y m;have cs:=Hd (Cal.cum_succ y m hm1 hm2);have c13:=Hd (Cal.cum_13 y)
     by_cases hd:Cal.dim y m<=n-Cal.dby y-Cal.cum y m
     ·have hm:m<12:=by
       rcases Int.lt_or_le m 12 with h|h
       ·exact h
       ·have e2:m=12:=by omega
        subst e2;have a:=cs.out;have b:=c13.out;have c:=hl.out;rw[show (12:Int)+1=13 by omega] at a;omega
      go_wp2_with (go_at_call 184;refine(length_any _ _ _ (by omega) (by omega)).mono ?_;rintro e w2 ⟨rfl,rfl⟩);go_round
      case rel=>exact⟨m+1,by omega,by omega,rfl,by rw[cs.out];omega,by rw[cs.out];go_num⟩
      case measure=>simp[intOf];omega
     ·have hv:n-Cal.dby y-Cal.cum y m<Cal.dim y m:=by omega
      clear hd;go_wp2_with (go_at_call 184;refine(length_any _ _ _ (by omega) (by omega)).mono ?_;rintro e w2 ⟨rfl,rfl⟩);refine bodyPost_ret (aNm rfl _ _ _) rfl ?_;exact⟨aOp (aOq n y m hy1 hy2 hm1 hm2 hr hv),rfl⟩
   ·have hlt:y<2199:=by
     rcases Int.lt_or_le y 2199 with h|h
     ·exact h
     ·have e2:y=2199:=by omega
      subst e2;have a:=em.out;have b:=hs.out;have c:=hl.out;rw[show (2199:Int)+1=2200 by omega] at b;omega
    go_wp2_with (go_at_call 183;refine(HL.out _).mono ?_;rintro e w' ⟨rfl,rfl⟩);go_round
    case rel=>exact⟨y+1,by omega,by omega,by rw[hs.out,hl.out];omega,by rw[hs.out,hl.out];go_num,rfl⟩
    case measure=>simp[intOf];omega
theorem of_yes(y m d:Int)(w:World)(h:Cal.Valid y m d):
  Calls prog 196 #[.int .i64 y,.int .i64 m,.int .i64 d] w fun e w'=>e=.returned (.tuple #[.int .i64 (Cal.num y m d-25567),.int .i64 0])/\w=w':=by
 obtain⟨h1,h2,h3,h4,h5,h6⟩:=h;have hd:=Cal.dim_bd y m;have hb:=Cal.dby_bd y h1 (by omega);have e0:=Hd Cal.dby_1900;go_enter func196,ntmps196;go_wp2_with (go_at_call 184;refine(length_any _ _ _ (by omega) (by omega)).mono ?_;rintro e w1 ⟨rfl,rfl⟩);go_loop [8,9] (fun n i=>∃k:Int,1900<=k/\k<=y/\i=.int .i64 k/\n=.int .i64 (Cal.dby k+d-25568)) (fun _ i=>(2199-intOf i).toNat)
 case atStart=>exact⟨1900,by omega,by omega,rfl,by rw[e0.out];go_num⟩
 case round =>
  obtain⟨k,hk1,hk2,rfl,rfl⟩:=hrel;have hs:=Hd (Cal.dby_succ k);have hbk:=Cal.dby_bd k hk1 (by omega)
  by_cases hlt:k<y
  ·by_cases hlp:Cal.leap k=true
   ·have hl:=Hd (show Cal.lp k=1 by unfold Cal.lp;rw[if_pos hlp]);have HL:=Hd (fun W=>show Calls prog 183 #[.int .i64 k] W fun e w'=>e=.returned (.bool true)/\W=w' by have:=leap_any k W (by omega) (by omega);rwa [hlp] at this);clear hlp;go_wp2_with (go_at_call 183;refine(HL.out _).mono ?_;rintro e w' ⟨rfl,rfl⟩);go_round
    case rel=>exact⟨k+1,by omega,by omega,rfl,by rw[hs.out,hl.out];go_num⟩
    case measure=>simp[intOf];omega
   ·have hl:=Hd (show Cal.lp k=0 by unfold Cal.lp;rw[if_neg hlp]);have hlp':Cal.leap k=false:=by simpa using hlp
    have HL:=Hd (fun W=>show Calls prog 183 #[.int .i64 k] W fun e w'=>e=.returned (.bool false)/\W=w' by have:=leap_any k W (by omega) (by omega);rwa [hlp'] at this);clear hlp hlp';go_wp2_with (go_at_call 183;refine(HL.out _).mono ?_;rintro e w' ⟨rfl,rfl⟩);go_round
    case rel=>exact⟨k+1,by omega,by omega,rfl,by rw[hs.out,hl.out];go_num⟩
    case measure=>simp[intOf];omega
  ·have hky:k=y:=by omega
   subst hky;go_wp2;go_loop [8,10] (fun n i=>∃j:Int,1<=j/\j<=m/\i=.int .i64 j/\n=.int .i64 (Cal.dby k+Cal.cum k j+d-25568)) (fun _ i=>(12-intOf i).toNat)
   case atStart=>exact⟨1,by omega,by omega,rfl,by rw[Cal.cum_1];go_num⟩
   case round =>
    obtain⟨j,hj1,hj2,rfl,rfl⟩:=hrel;have cb:=Cal.cum_bd k j hj1 (by omega);have db:=Cal.dim_bd k j
    by_cases hlt2:j<m
    ·have cs:=Hd (Cal.cum_succ k j hj1 (by omega));go_wp2_with (go_at_call 184;refine(length_any _ _ _ (by omega) (by omega)).mono ?_;rintro e w2 ⟨rfl,rfl⟩);go_round
     case rel=>exact⟨j+1,by omega,by omega,rfl,by rw[cs.out];go_num⟩
     case measure=>simp[intOf];omega
    ·have hjm:j=m:=by omega
     subst hjm;go_wp2;go_ret2;exact⟨by rw[show Cal.num k j d=Cal.dby k+Cal.cum k j+d-1 from rfl];simp;omega,rfl⟩
end Go.Proofs.YthjekgfoidmagaaGreatDoor.Ref06
end
section
namespace Go.Proofs.YthjekgfoidmagaaGreatDoor.Dt
open Tryz
open Go.RowKit
def bad(n:Int):Bool:=decide (n<0∨120<n)
def aFd(p:Int->Bool)(zs:List Int):Int:=match zs.findIdx? p with|some i=>i|none=>-1
end Go.Proofs.YthjekgfoidmagaaGreatDoor.Dt
end
section
namespace Go.Proofs.YthjekgfoidmagaaGreatDoor
open Tryz
open Go.RowKit Go.WideShapes Go.ChangeShapes
section
variable {H:Type}{enc:TypeId×Value->H}{P:Program}
theorem sE{f:Func}{s:ChangeSpec}{apart fresh handsOn again:Bool}{W W':World}{args:Array Value}{v:Value}{ds gs:List (DataW H)}{before pa pv:List MemPlace}
  (hW:DataW.Whole enc P f.params.toList s.vars apart W args.toList ds gs before)
  (hres:∀(b:Nat) (sp:Nat->Bool) (hd:Bool),DataW.TrodAll enc P W' b sp hd f.resultTypes.toList (v.resultList f.resultTypes.size) (s.fn H (ds++gs)).results [])
  (hargs:∀sp:Nat->Bool,(∀p∈before,sp p.block=true)->DataW.TrodAll enc P W' 0 sp true f.params.toList args.toList (s.fn H (ds++gs)).args pa)
  (hvars:∀sp:Nat->Bool,(∀p∈before,sp p.block=true)->DataW.TrodVars enc P W' sp s.vars (s.fn H (ds++gs)).vars pv)
  (hps:before=pa++pv) (hb:Below W.heap.size W W')
  (hok:∀(j:Nat) (t:TypeId) (r:Value),f.resultTypes[j]?=some t->(v.resultList f.resultTypes.size)[j]?=some r->Value.okWide P W' .any 0 t r) :
  s.post enc P f apart fresh handsOn again W args v W':=by
 have hlt:∀p∈before,p.block<W.heap.size:=fun p hp=>hW.lt p hp
 have hold:∀p∈before,(fun b=>decide (b<W.heap.size)) p.block=true:=fun p hp=>by simpa using hlt p hp
 refine⟨ds,gs,before,[],pa,pv,hW,hres _ _ _,hargs _ hold,hvars _ hold,World.keptBut_mono (fun p hp=>⟨hp,?_⟩) (hb.frame (·∈before)),fun _=>?_⟩
 ·rw[hps,List.mem_append] at hp;exact Or.inr hp
 ·obtain⟨_,_,_,_,_,hz,hn⟩:=hW;refine⟨hok,_,_,([]++pa)++pv,⟨[]++pa,pv,trodAll_append (hargs _ (fun _ _=>rfl)) (hres _ _ _),hvars _ (fun _ _=>rfl),rfl,?_,?_⟩,?_⟩
  ·intro b off hp;have hin:MemPlace.cell b off∈before:=by rw[hps];simpa using hp
   rw[hb.frozen (hlt _ hin)];exact hz b off hin
  ·intro ha;have:=hn ha;rw[hps] at this;simpa using this
  ·intro p hp _;rw[hps];simpa using hp
end
end Go.Proofs.YthjekgfoidmagaaGreatDoor
end
section
namespace Go.Proofs.YthjekgfoidmagaaGreatDoor
open Tryz
open Go.RowKit Go.Maps Go.MapKept Go.ChangeMaps
def nH(ids:List (List UInt8)):List Lit:=ids.map Lit.string
def xY(w:World)(B n:Nat)(ids:List (List UInt8)):Prop :=
 w.ownsMap prog 9 (plainElem (H:=Unit) prog 4) B n (setOf (.lit (.bool true)) (nH ids))
theorem xY.lt{w:World}{B n:Nat}{ids:List (List UInt8)}(h:xY w B n ids):B<w.heap.size:=World.ownsMap.lt h
theorem xY.below{w w':World}{B n:Nat}{ids:List (List UInt8)}(h:xY w B n ids)(hb:Below w.heap.size w w'):xY w' B n ids:=by
 have hlt:=h.lt;obtain⟨es,clock,hh,F,hs,hD⟩:=h;exact⟨es,clock,(hb.block B hlt).trans hh,F,hs,hD⟩
end Go.Proofs.YthjekgfoidmagaaGreatDoor
end
