/- Div -/
import Derived.Test.YtejkibnaidiklaaGreatDoorJMem
import Derived.Test.YtejkibnaidiklaaGreatDoorJLots
import Derived.Test.YtejkibnaidiklaaGreatDoorJAdd
import Derived.Test.YtejkibnaidiklaaGreatDoorJText
set_option maxHeartbeats 16000000
set_option maxRecDepth 100000
namespace Go.Proofs.YtejkibnaidiklaaGreatDoor
open Go.RowKit Num
theorem Mz(x y:Nat)(l m:List UInt8)(w:World)(hE:iE w)(hl:l.length≤10000000000)(hm:m.length≤10000000000)(ex:x=bK (aZ l))(ey:y=bK (aZ m))(enx:true=dD l)(eny:true=dD m)(hy:y≠0):
  Calls Tryz.prog 96 #[.string ⟨l.toArray⟩,.string ⟨m.toArray⟩] w fun e w'=>e=.returned (.tuple #[.string ⟨(Fw false (x/y)).toArray⟩,.string ⟨(Fw true (x%y)).toArray⟩,.int .i64 0])∧Below w.heap.size w w':=by
 have H1:=Hd (fun W=>dX l W (by omega));have H2:=Hd (fun W=>dX m W (by omega));have g1:=dL l;have g2:=dL m;rw[←ex] at g1 H1;rw[←ey] at g2 H2;rw[←enx] at H1;rw[←eny] at H2;clear ex ey enx eny;have gq:=bP (Nat.div_le_self x y);have gr:=bP (Nat.le_of_lt (Nat.mod_lt x (Nat.pos_of_ne_zero hy)));have H3:=Hd (fun a a' cap cap' w h1=>pH x y a a' cap cap' w hy (by omega) (by omega) h1);have hyl:(aC y).length≠0:=by intro e;exact hy ((bO y).1 (List.eq_nil_of_length_eq_zero e))
 have hyl':(((aC y).length:Int)==0)=false:=by simp;exact fun e=>hyl (by rw[e];rfl)
 have HE:=Hd hE;have HG:=Hd (And.intro g1 (And.intro g2 (And.intro gq gr)));clear hE g1 g2 gq gr hyl;go_enter Tryz.func96,Tryz.ntmps96;go_wp2_with fail;refine(H1.out _).mono ?_;rintro e w1 ⟨a,c,rfl,hc,hf,hr,hb⟩;go_wp2_with fail;refine(H2.out _).mono ?_;rintro e w2 ⟨a',c',rfl,hc',hf',hr',hb'⟩;have HX:=Hd (fun o1 o2=>show Below w2.heap.size w2 ((w2.alloc o1).alloc o2) from((Br _ _).alloc (Nl _) _).alloc (by simp) _);have HR:=Hd (And.intro (hr.below hb') hr');clear hr hr';go_wp2_with fail;refine(H3.out a a' c c' _ hc (HR.out.1.below (HX.out _ _)) (HR.out.2.below (HX.out _ _))).mono ?_;rintro e w3 ⟨b1,b2,c1,c2,rfl,hc1,hc2,hr1,hr2,hb3⟩;have q:=vM (n:=0) hb3;have k0:=aS q.1 0;have k1:=aS q.2 0;have k3:=aS q.2 1;have hk:w2.heap.size<w3.heap.size:=(Ai.1 q.1).1;have hk':w2.heap.size+1<w3.heap.size:=(Ai.1 q.2).1;have KA0:=Hd (And.intro hk q.1);have KB0:=Hd (And.intro hk' q.2);have HBW:=Hd (aA (aA (aA hb hb') (HX.out _ _)) hb3);have HR1:=Hd hr1;have HR2:=Hd hr2;have HR':=Hd ((HR.out.2.below (HX.out _ _)).below hb3);clear q hb3 hr1 hr2;go_wp2_with fail;have HBc:Below w.heap.size w w3.drew:=aD HBW.out 1;have KA:aP w3.drew w2.heap.size #[.bool true,.slice a (aC x).length c] _:=⟨KA0.out.1,KA0.out.2⟩
 have KB:aP w3.drew (w2.heap.size+1) #[.bool true,.slice a' (aC y).length c'] _:=⟨KB0.out.1,KB0.out.2⟩
 have R1:dT w3.drew b1 (gs (aC (x/y))):=HR1.out;have R2:dT w3.drew b2 (gs (aC (x%y))):=HR2.out;refine wp_region_held_drew (S:=fun W=>W.cell? ⟨w2.heap.size,0,none⟩=some (.bool true)∧W.cell? ⟨w2.heap.size+1,0,none⟩=some (.bool true)) (by kernel_rfl) ?hS1 (fun hHeld=>?hR1)
 case hS1=>exact⟨KA.cell 0,KB.cell 0⟩
 refine tk 0 (some 44) (?v2) rfl rfl ?hy2 ?hR2
 case hy2=>(intro w hSw;(try dsimp only at hSw);go_simp;try rfl)
 simp only[pS];refine tk 1 (some 45) (?v3) rfl rfl ?hy3 ?hR3
 case hy3=>(intro w hSw;(try dsimp only at hSw);go_simp;try rfl)
 simp only[pS];refine tk 2 (some 46) (?v4) rfl rfl ?hy4 ?hR4
 case hy4=>(intro w hSw;(try dsimp only at hSw);go_simp;try rfl)
 simp only[pS];refine tk 3 (some 47) (?v5) rfl rfl ?hy5 ?hR5
 case hy5=>(intro w hSw;(try dsimp only at hSw);go_simp;try rfl)
 simp only[pS];refine tk 4 (some 48) (?v6) rfl rfl ?hy6 ?hR6
 case hy6=>(intro w hSw;(try dsimp only at hSw);go_simp;try rfl)
 simp only[pS];refine tk 5 (some 49) (?v7) rfl rfl ?hy7 ?hR7
 case hy7=>(intro w hSw;(try dsimp only at hSw);go_simp;try rfl)
 simp only[pS];refine tk 6 (some 50) (?v8) rfl rfl ?hy8 ?hR8
 case hy8=>(intro w hSw;(try dsimp only at hSw);go_simp;try rfl)
 simp only[pS];refine tk 8 (some 52) (?v9) rfl rfl ?hy9 ?hR9
 case hy9=>(intro w hSw;(try dsimp only at hSw);go_simp;try rfl)
 simp only[pS];refine tk 9 (some 53) (?v10) rfl rfl ?hy10 ?hR10
 case hy10=>(intro w hSw;(try dsimp only at hSw);go_simp;try rfl)
 simp only[pS];refine tk 10 (some 54) (?v11) rfl rfl ?hy11 ?hR11
 case hy11=>(intro w hSw;(try dsimp only at hSw);go_simp;try rfl)
 simp only[pS];refine tk 11 (some 55) (?v12) rfl rfl ?hy12 ?hR12
 case hy12=>(intro w hSw;(try dsimp only at hSw);go_simp;try rfl)
 simp only[pS];refine wpAnyH_ready (rs:=[7]) (by kernel_rfl) (by simp) ?_;refine AllReadyH.cons (o:=_) rfl (fun K hK=>?hC13) AllReadyH.nil;rw[if_pos (by rfl)];go_simp;go_at_call 58;refine(fJ (x/y) false b1 _ _ (HE.out.below HBc) hc1 (by have:=HG.out;omega) R1).mono ?_;rintro e wn ⟨rfl,hbn⟩;replace HBc:=aA HBc hbn;replace KA:=KA.below hbn;replace KB:=KB.below hbn;replace R2:=R2.below hbn;clear hbn R1;go_wp2_with fail;refine hK.out _ _ ?hS13 (fun hHeld=>?hR13)
 case hS13=>exact⟨KA.cell 0,KB.cell 0⟩
 try simp only[pS]
 refine wpAnyH_ready (rs:=[12]) (by kernel_rfl) (by simp) ?_;refine AllReadyH.cons (o:=_) rfl (fun K hK=>?hC14) AllReadyH.nil;rw[if_pos (by rfl)];go_simp;go_at_call 58;refine(fJ (x%y) true b2 _ _ (HE.out.below HBc) hc2 (by have:=HG.out;omega) R2).mono ?_;rintro e wn ⟨rfl,hbn⟩;replace HBc:=aA HBc hbn;replace KA:=KA.below hbn;replace KB:=KB.below hbn;clear hbn R2;go_wp2_with fail;refine hK.out _ _ ?hS14 (fun hHeld=>?hR14)
 case hS14=>exact⟨KA.cell 0,KB.cell 0⟩
 try simp only[pS]
 refine tk 13 (some 4) (?v15) rfl rfl ?hy15 ?hR15
 case hy15=>(intro w hSw;(try dsimp only at hSw);go_simp;try rfl)
 simp only[pS];refine tk 14 (some 5) (?v16) rfl rfl ?hy16 ?hR16
 case hy16=>(intro w hSw;(try dsimp only at hSw);go_simp;try rfl)
 simp only[pS];refine tk 15 (some 6) (?v17) rfl rfl ?hy17 ?hR17
 case hy17=>(intro w hSw;(try dsimp only at hSw);go_simp;try rfl)
 simp only[pS];refine wpAnyH_done (by kernel_rfl) ?_ _;go_wp2;go_ret3;exact⟨rfl,HBc⟩
theorem Na(x y:Nat)(l m:List UInt8)(w:World)(hE:iE w)(hl:l.length≤10000000000)(hm:m.length≤10000000000)(ex:x=bK (aZ l))(ey:y=bK (aZ m))(enx:false=dD l)(eny:false=dD m)(hy:y≠0):
  Calls Tryz.prog 96 #[.string ⟨l.toArray⟩,.string ⟨m.toArray⟩] w fun e w'=>e=.returned (.tuple #[.string ⟨(Fw false (x/y)).toArray⟩,.string ⟨(Fw false (x%y)).toArray⟩,.int .i64 0])∧Below w.heap.size w w':=by
 have H1:=Hd (fun W=>dX l W (by omega));have H2:=Hd (fun W=>dX m W (by omega));have g1:=dL l;have g2:=dL m;rw[←ex] at g1 H1;rw[←ey] at g2 H2;rw[←enx] at H1;rw[←eny] at H2;clear ex ey enx eny;have gq:=bP (Nat.div_le_self x y);have gr:=bP (Nat.le_of_lt (Nat.mod_lt x (Nat.pos_of_ne_zero hy)));have H3:=Hd (fun a a' cap cap' w h1=>pH x y a a' cap cap' w hy (by omega) (by omega) h1);have hyl:(aC y).length≠0:=by intro e;exact hy ((bO y).1 (List.eq_nil_of_length_eq_zero e))
 have hyl':(((aC y).length:Int)==0)=false:=by simp;exact fun e=>hyl (by rw[e];rfl)
 have HE:=Hd hE;have HG:=Hd (And.intro g1 (And.intro g2 (And.intro gq gr)));clear hE g1 g2 gq gr hyl;go_enter Tryz.func96,Tryz.ntmps96;go_wp2_with fail;refine(H1.out _).mono ?_;rintro e w1 ⟨a,c,rfl,hc,hf,hr,hb⟩;go_wp2_with fail;refine(H2.out _).mono ?_;rintro e w2 ⟨a',c',rfl,hc',hf',hr',hb'⟩;have HX:=Hd (fun o1 o2=>show Below w2.heap.size w2 ((w2.alloc o1).alloc o2) from((Br _ _).alloc (Nl _) _).alloc (by simp) _);have HR:=Hd (And.intro (hr.below hb') hr');clear hr hr';go_wp2_with fail;refine(H3.out a a' c c' _ hc (HR.out.1.below (HX.out _ _)) (HR.out.2.below (HX.out _ _))).mono ?_;rintro e w3 ⟨b1,b2,c1,c2,rfl,hc1,hc2,hr1,hr2,hb3⟩;have q:=vM (n:=0) hb3;have k0:=aS q.1 0;have k1:=aS q.2 0;have k3:=aS q.2 1;have hk:w2.heap.size<w3.heap.size:=(Ai.1 q.1).1;have hk':w2.heap.size+1<w3.heap.size:=(Ai.1 q.2).1;have KA0:=Hd (And.intro hk q.1);have KB0:=Hd (And.intro hk' q.2);have HBW:=Hd (aA (aA (aA hb hb') (HX.out _ _)) hb3);have HR1:=Hd hr1;have HR2:=Hd hr2;have HR':=Hd ((HR.out.2.below (HX.out _ _)).below hb3);clear q hb3 hr1 hr2;go_wp2_with fail;have HBc:Below w.heap.size w w3.drew:=aD HBW.out 1;have KA:aP w3.drew w2.heap.size #[.bool false,.slice a (aC x).length c] _:=⟨KA0.out.1,KA0.out.2⟩
 have KB:aP w3.drew (w2.heap.size+1) #[.bool false,.slice a' (aC y).length c'] _:=⟨KB0.out.1,KB0.out.2⟩
 have R1:dT w3.drew b1 (gs (aC (x/y))):=HR1.out;have R2:dT w3.drew b2 (gs (aC (x%y))):=HR2.out;refine wp_region_held_drew (S:=fun W=>W.cell? ⟨w2.heap.size,0,none⟩=some (.bool false)∧W.cell? ⟨w2.heap.size+1,0,none⟩=some (.bool false)) (by kernel_rfl) ?hS18 (fun hHeld=>?hR18)
 case hS18=>exact⟨KA.cell 0,KB.cell 0⟩
 refine tk 0 (some 44) (?v19) rfl rfl ?hy19 ?hR19
 case hy19=>(intro w hSw;(try dsimp only at hSw);go_simp;try rfl)
 simp only[pS];refine tk 1 (some 45) (?v20) rfl rfl ?hy20 ?hR20
 case hy20=>(intro w hSw;(try dsimp only at hSw);go_simp;try rfl)
 simp only[pS];refine tk 2 (some 46) (?v21) rfl rfl ?hy21 ?hR21
 case hy21=>(intro w hSw;(try dsimp only at hSw);go_simp;try rfl)
 simp only[pS];refine tk 3 (some 47) (?v22) rfl rfl ?hy22 ?hR22
 case hy22=>(intro w hSw;(try dsimp only at hSw);go_simp;try rfl)
 simp only[pS];refine tk 4 (some 48) (?v23) rfl rfl ?hy23 ?hR23
 case hy23=>(intro w hSw;(try dsimp only at hSw);go_simp;try rfl)
 simp only[pS];refine tk 5 (some 49) (?v24) rfl rfl ?hy24 ?hR24
 case hy24=>(intro w hSw;(try dsimp only at hSw);go_simp;try rfl)
 simp only[pS];refine tk 6 (some 50) (?v25) rfl rfl ?hy25 ?hR25
 case hy25=>(intro w hSw;(try dsimp only at hSw);go_simp;try rfl)
 simp only[pS];refine tk 8 (some 52) (?v26) rfl rfl ?hy26 ?hR26
 case hy26=>(intro w hSw;(try dsimp only at hSw);go_simp;try rfl)
 simp only[pS];refine tk 9 (some 53) (?v27) rfl rfl ?hy27 ?hR27
 case hy27=>(intro w hSw;(try dsimp only at hSw);go_simp;try rfl)
 simp only[pS];refine tk 10 (some 54) (?v28) rfl rfl ?hy28 ?hR28
 case hy28=>(intro w hSw;(try dsimp only at hSw);go_simp;try rfl)
 simp only[pS];refine tk 11 (some 55) (?v29) rfl rfl ?hy29 ?hR29
 case hy29=>(intro w hSw;(try dsimp only at hSw);go_simp;try rfl)
 simp only[pS];refine wpAnyH_ready (rs:=[7]) (by kernel_rfl) (by simp) ?_;refine AllReadyH.cons (o:=_) rfl (fun K hK=>?hC30) AllReadyH.nil;rw[if_pos (by rfl)];go_simp;go_at_call 58;refine(fJ (x/y) false b1 _ _ (HE.out.below HBc) hc1 (by have:=HG.out;omega) R1).mono ?_;rintro e wn ⟨rfl,hbn⟩;replace HBc:=aA HBc hbn;replace KA:=KA.below hbn;replace KB:=KB.below hbn;replace R2:=R2.below hbn;clear hbn R1;go_wp2_with fail;refine hK.out _ _ ?hS30 (fun hHeld=>?hR30)
 case hS30=>exact⟨KA.cell 0,KB.cell 0⟩
 try simp only[pS]
 refine wpAnyH_ready (rs:=[12]) (by kernel_rfl) (by simp) ?_;refine AllReadyH.cons (o:=_) rfl (fun K hK=>?hC31) AllReadyH.nil;rw[if_pos (by rfl)];go_simp;go_at_call 58;refine(fJ (x%y) false b2 _ _ (HE.out.below HBc) hc2 (by have:=HG.out;omega) R2).mono ?_;rintro e wn ⟨rfl,hbn⟩;replace HBc:=aA HBc hbn;replace KA:=KA.below hbn;replace KB:=KB.below hbn;clear hbn R2;go_wp2_with fail;refine hK.out _ _ ?hS31 (fun hHeld=>?hR31)
 case hS31=>exact⟨KA.cell 0,KB.cell 0⟩
 try simp only[pS]
 refine tk 13 (some 4) (?v32) rfl rfl ?hy32 ?hR32
 case hy32=>(intro w hSw;(try dsimp only at hSw);go_simp;try rfl)
 simp only[pS];refine tk 14 (some 5) (?v33) rfl rfl ?hy33 ?hR33
 case hy33=>(intro w hSw;(try dsimp only at hSw);go_simp;try rfl)
 simp only[pS];refine tk 15 (some 6) (?v34) rfl rfl ?hy34 ?hR34
 case hy34=>(intro w hSw;(try dsimp only at hSw);go_simp;try rfl)
 simp only[pS];refine wpAnyH_done (by kernel_rfl) ?_ _;go_wp2;go_ret3;exact⟨rfl,HBc⟩
theorem Jk(x y:Nat)(l m:List UInt8)(w:World)(hE:iE w)(hl:l.length≤10000000000)(hm:m.length≤10000000000)(ex:x=bK (aZ l))(ey:y=bK (aZ m))(enx:true=dD l)(eny:false=dD m)(hy:y≠0)(h0:x%y=0):
  Calls Tryz.prog 96 #[.string ⟨l.toArray⟩,.string ⟨m.toArray⟩] w fun e w'=>e=.returned (.tuple #[.string ⟨(Fw true (x/y)).toArray⟩,.string ⟨(Fw false (0)).toArray⟩,.int .i64 0])∧Below w.heap.size w w':=by
 have H1:=Hd (fun W=>dX l W (by omega));have H2:=Hd (fun W=>dX m W (by omega));have g1:=dL l;have g2:=dL m;rw[←ex] at g1 H1;rw[←ey] at g2 H2;rw[←enx] at H1;rw[←eny] at H2;clear ex ey enx eny;have gq:=bP (Nat.div_le_self x y);have gr:=bP (Nat.le_of_lt (Nat.mod_lt x (Nat.pos_of_ne_zero hy)));have H3:=Hd (fun a a' cap cap' w h1=>pH x y a a' cap cap' w hy (by omega) (by omega) h1);have hyl:(aC y).length≠0:=by intro e;exact hy ((bO y).1 (List.eq_nil_of_length_eq_zero e))
 have hyl':(((aC y).length:Int)==0)=false:=by simp;exact fun e=>hyl (by rw[e];rfl)
 rw[h0,aT] at H3;have hT0:=fun b c W hE=>fJ 0 false b c W hE (by rw[aT];simp) (by rw[aT];simp) (by rw[aT];exact .inl rfl)
 rw[aT] at hT0;have HT0:=Hd hT0;clear hT0;have HE:=Hd hE;have HG:=Hd (And.intro g1 (And.intro g2 (And.intro gq gr)));clear hE g1 g2 gq gr hyl;go_enter Tryz.func96,Tryz.ntmps96;go_wp2_with fail;refine(H1.out _).mono ?_;rintro e w1 ⟨a,c,rfl,hc,hf,hr,hb⟩;go_wp2_with fail;refine(H2.out _).mono ?_;rintro e w2 ⟨a',c',rfl,hc',hf',hr',hb'⟩;have HX:=Hd (fun o1 o2=>show Below w2.heap.size w2 ((w2.alloc o1).alloc o2) from((Br _ _).alloc (Nl _) _).alloc (by simp) _);have HR:=Hd (And.intro (hr.below hb') hr');clear hr hr';go_wp2_with fail;refine(H3.out a a' c c' _ hc (HR.out.1.below (HX.out _ _)) (HR.out.2.below (HX.out _ _))).mono ?_;rintro e w3 ⟨b1,b2,c1,c2,rfl,hc1,hc2,hr1,hr2,hb3⟩;have q:=vM (n:=0) hb3;have k0:=aS q.1 0;have k1:=aS q.2 0;have k3:=aS q.2 1;have hk:w2.heap.size<w3.heap.size:=(Ai.1 q.1).1;have hk':w2.heap.size+1<w3.heap.size:=(Ai.1 q.2).1;have KA0:=Hd (And.intro hk q.1);have KB0:=Hd (And.intro hk' q.2);have HBW:=Hd (aA (aA (aA hb hb') (HX.out _ _)) hb3);have HR1:=Hd hr1;have HR2:=Hd hr2;have HR':=Hd ((HR.out.2.below (HX.out _ _)).below hb3);clear q hb3 hr1 hr2;go_wp2_with fail;have HBc:Below w.heap.size w w3.drew:=aD HBW.out 1;have KA:aP w3.drew w2.heap.size #[.bool true,.slice a (aC x).length c] _:=⟨KA0.out.1,KA0.out.2⟩
 have KB:aP w3.drew (w2.heap.size+1) #[.bool false,.slice a' (aC y).length c'] _:=⟨KB0.out.1,KB0.out.2⟩
 have R1:dT w3.drew b1 (gs (aC (x/y))):=HR1.out;have R2:dT w3.drew b2 (gs ([])):=HR2.out;refine wp_region_held_drew (S:=fun W=>W.cell? ⟨w2.heap.size,0,none⟩=some (.bool true)∧W.cell? ⟨w2.heap.size+1,0,none⟩=some (.bool false)) (by kernel_rfl) ?hS35 (fun hHeld=>?hR35)
 case hS35=>exact⟨KA.cell 0,KB.cell 0⟩
 refine tk 0 (some 44) (?v36) rfl rfl ?hy36 ?hR36
 case hy36=>(intro w hSw;(try dsimp only at hSw);go_simp;try rfl)
 simp only[pS];refine tk 1 (some 45) (?v37) rfl rfl ?hy37 ?hR37
 case hy37=>(intro w hSw;(try dsimp only at hSw);go_simp;try rfl)
 simp only[pS];refine tk 2 (some 46) (?v38) rfl rfl ?hy38 ?hR38
 case hy38=>(intro w hSw;(try dsimp only at hSw);go_simp;try rfl)
 simp only[pS];refine tk 3 (some 47) (?v39) rfl rfl ?hy39 ?hR39
 case hy39=>(intro w hSw;(try dsimp only at hSw);go_simp;try rfl)
 simp only[pS];refine tk 4 (some 48) (?v40) rfl rfl ?hy40 ?hR40
 case hy40=>(intro w hSw;(try dsimp only at hSw);go_simp;try rfl)
 simp only[pS];refine tk 5 (some 49) (?v41) rfl rfl ?hy41 ?hR41
 case hy41=>(intro w hSw;(try dsimp only at hSw);go_simp;try rfl)
 simp only[pS];refine tk 6 (some 50) (?v42) rfl rfl ?hy42 ?hR42
 case hy42=>(intro w hSw;(try dsimp only at hSw);go_simp;try rfl)
 simp only[pS];refine tk 8 (some 52) (?v43) rfl rfl ?hy43 ?hR43
 case hy43=>(intro w hSw;(try dsimp only at hSw);go_simp;try rfl)
 simp only[pS];refine tk 9 (some 53) (?v44) rfl rfl ?hy44 ?hR44
 case hy44=>(intro w hSw;(try dsimp only at hSw);go_simp;try rfl)
 simp only[pS];refine tk 10 (some 54) (?v45) rfl rfl ?hy45 ?hR45
 case hy45=>(intro w hSw;(try dsimp only at hSw);go_simp;try rfl)
 simp only[pS];refine tk 11 (some 55) (?v46) rfl rfl ?hy46 ?hR46
 case hy46=>(intro w hSw;(try dsimp only at hSw);go_simp;try rfl)
 simp only[pS];refine wpAnyH_ready (rs:=[7]) (by kernel_rfl) (by simp) ?_;refine AllReadyH.cons (o:=_) rfl (fun K hK=>?hC47) AllReadyH.nil;rw[if_pos (by rfl)];go_simp;go_at_call 58;refine(fJ (x/y) true b1 _ _ (HE.out.below HBc) hc1 (by have:=HG.out;omega) R1).mono ?_;rintro e wn ⟨rfl,hbn⟩;replace HBc:=aA HBc hbn;replace KA:=KA.below hbn;replace KB:=KB.below hbn;replace R2:=R2.below hbn;clear hbn R1;go_wp2_with fail;refine hK.out _ _ ?hS47 (fun hHeld=>?hR47)
 case hS47=>exact⟨KA.cell 0,KB.cell 0⟩
 try simp only[pS]
 refine wpAnyH_ready (rs:=[12]) (by kernel_rfl) (by simp) ?_;refine AllReadyH.cons (o:=_) rfl (fun K hK=>?hC48) AllReadyH.nil;rw[if_pos (by rfl)];go_simp;go_at_call 58;refine(HT0.out b2 _ _ (HE.out.below HBc)).mono ?_;rintro e wn ⟨rfl,hbn⟩;replace HBc:=aA HBc hbn;replace KA:=KA.below hbn;replace KB:=KB.below hbn;clear hbn R2;go_wp2_with fail;refine hK.out _ _ ?hS48 (fun hHeld=>?hR48)
 case hS48=>exact⟨KA.cell 0,KB.cell 0⟩
 try simp only[pS]
 refine tk 13 (some 4) (?v49) rfl rfl ?hy49 ?hR49
 case hy49=>(intro w hSw;(try dsimp only at hSw);go_simp;try rfl)
 simp only[pS];refine tk 14 (some 5) (?v50) rfl rfl ?hy50 ?hR50
 case hy50=>(intro w hSw;(try dsimp only at hSw);go_simp;try rfl)
 simp only[pS];refine tk 15 (some 6) (?v51) rfl rfl ?hy51 ?hR51
 case hy51=>(intro w hSw;(try dsimp only at hSw);go_simp;try rfl)
 simp only[pS];refine wpAnyH_done (by kernel_rfl) ?_ _;go_wp2;go_ret3;exact⟨rfl,HBc⟩
theorem Jl(x y:Nat)(l m:List UInt8)(w:World)(hE:iE w)(hl:l.length≤10000000000)(hm:m.length≤10000000000)(ex:x=bK (aZ l))(ey:y=bK (aZ m))(enx:false=dD l)(eny:true=dD m)(hy:y≠0)(h0:x%y=0):
  Calls Tryz.prog 96 #[.string ⟨l.toArray⟩,.string ⟨m.toArray⟩] w fun e w'=>e=.returned (.tuple #[.string ⟨(Fw true (x/y)).toArray⟩,.string ⟨(Fw true (0)).toArray⟩,.int .i64 0])∧Below w.heap.size w w':=by
 have H1:=Hd (fun W=>dX l W (by omega));have H2:=Hd (fun W=>dX m W (by omega));have g1:=dL l;have g2:=dL m;rw[←ex] at g1 H1;rw[←ey] at g2 H2;rw[←enx] at H1;rw[←eny] at H2;clear ex ey enx eny;have gq:=bP (Nat.div_le_self x y);have gr:=bP (Nat.le_of_lt (Nat.mod_lt x (Nat.pos_of_ne_zero hy)));have H3:=Hd (fun a a' cap cap' w h1=>pH x y a a' cap cap' w hy (by omega) (by omega) h1);have hyl:(aC y).length≠0:=by intro e;exact hy ((bO y).1 (List.eq_nil_of_length_eq_zero e))
 have hyl':(((aC y).length:Int)==0)=false:=by simp;exact fun e=>hyl (by rw[e];rfl)
 rw[h0,aT] at H3;have hT0:=fun b c W hE=>fJ 0 true b c W hE (by rw[aT];simp) (by rw[aT];simp) (by rw[aT];exact .inl rfl)
 rw[aT] at hT0;have HT0:=Hd hT0;clear hT0;have HE:=Hd hE;have HG:=Hd (And.intro g1 (And.intro g2 (And.intro gq gr)));clear hE g1 g2 gq gr hyl;go_enter Tryz.func96,Tryz.ntmps96;go_wp2_with fail;refine(H1.out _).mono ?_;rintro e w1 ⟨a,c,rfl,hc,hf,hr,hb⟩;go_wp2_with fail;refine(H2.out _).mono ?_;rintro e w2 ⟨a',c',rfl,hc',hf',hr',hb'⟩;have HX:=Hd (fun o1 o2=>show Below w2.heap.size w2 ((w2.alloc o1).alloc o2) from((Br _ _).alloc (Nl _) _).alloc (by simp) _);have HR:=Hd (And.intro (hr.below hb') hr');clear hr hr';go_wp2_with fail;refine(H3.out a a' c c' _ hc (HR.out.1.below (HX.out _ _)) (HR.out.2.below (HX.out _ _))).mono ?_;rintro e w3 ⟨b1,b2,c1,c2,rfl,hc1,hc2,hr1,hr2,hb3⟩;have q:=vM (n:=0) hb3;have k0:=aS q.1 0;have k1:=aS q.2 0;have k3:=aS q.2 1;have hk:w2.heap.size<w3.heap.size:=(Ai.1 q.1).1;have hk':w2.heap.size+1<w3.heap.size:=(Ai.1 q.2).1;have KA0:=Hd (And.intro hk q.1);have KB0:=Hd (And.intro hk' q.2);have HBW:=Hd (aA (aA (aA hb hb') (HX.out _ _)) hb3);have HR1:=Hd hr1;have HR2:=Hd hr2;have HR':=Hd ((HR.out.2.below (HX.out _ _)).below hb3);clear q hb3 hr1 hr2;go_wp2_with fail;have HBc:Below w.heap.size w w3.drew:=aD HBW.out 1;have KA:aP w3.drew w2.heap.size #[.bool false,.slice a (aC x).length c] _:=⟨KA0.out.1,KA0.out.2⟩
 have KB:aP w3.drew (w2.heap.size+1) #[.bool true,.slice a' (aC y).length c'] _:=⟨KB0.out.1,KB0.out.2⟩
 have R1:dT w3.drew b1 (gs (aC (x/y))):=HR1.out;have R2:dT w3.drew b2 (gs ([])):=HR2.out;refine wp_region_held_drew (S:=fun W=>W.cell? ⟨w2.heap.size,0,none⟩=some (.bool false)∧W.cell? ⟨w2.heap.size+1,0,none⟩=some (.bool true)) (by kernel_rfl) ?hS52 (fun hHeld=>?hR52)
 case hS52=>exact⟨KA.cell 0,KB.cell 0⟩
 refine tk 0 (some 44) (?v53) rfl rfl ?hy53 ?hR53
 case hy53=>(intro w hSw;(try dsimp only at hSw);go_simp;try rfl)
 simp only[pS];refine tk 1 (some 45) (?v54) rfl rfl ?hy54 ?hR54
 case hy54=>(intro w hSw;(try dsimp only at hSw);go_simp;try rfl)
 simp only[pS];refine tk 2 (some 46) (?v55) rfl rfl ?hy55 ?hR55
 case hy55=>(intro w hSw;(try dsimp only at hSw);go_simp;try rfl)
 simp only[pS];refine tk 3 (some 47) (?v56) rfl rfl ?hy56 ?hR56
 case hy56=>(intro w hSw;(try dsimp only at hSw);go_simp;try rfl)
 simp only[pS];refine tk 4 (some 48) (?v57) rfl rfl ?hy57 ?hR57
 case hy57=>(intro w hSw;(try dsimp only at hSw);go_simp;try rfl)
 simp only[pS];refine tk 5 (some 49) (?v58) rfl rfl ?hy58 ?hR58
 case hy58=>(intro w hSw;(try dsimp only at hSw);go_simp;try rfl)
 simp only[pS];refine tk 6 (some 50) (?v59) rfl rfl ?hy59 ?hR59
 case hy59=>(intro w hSw;(try dsimp only at hSw);go_simp;try rfl)
 simp only[pS];refine tk 8 (some 52) (?v60) rfl rfl ?hy60 ?hR60
 case hy60=>(intro w hSw;(try dsimp only at hSw);go_simp;try rfl)
 simp only[pS];refine tk 9 (some 53) (?v61) rfl rfl ?hy61 ?hR61
 case hy61=>(intro w hSw;(try dsimp only at hSw);go_simp;try rfl)
 simp only[pS];refine tk 10 (some 54) (?v62) rfl rfl ?hy62 ?hR62
 case hy62=>(intro w hSw;(try dsimp only at hSw);go_simp;try rfl)
 simp only[pS];refine tk 11 (some 55) (?v63) rfl rfl ?hy63 ?hR63
 case hy63=>(intro w hSw;(try dsimp only at hSw);go_simp;try rfl)
 simp only[pS];refine wpAnyH_ready (rs:=[7]) (by kernel_rfl) (by simp) ?_;refine AllReadyH.cons (o:=_) rfl (fun K hK=>?hC64) AllReadyH.nil;rw[if_pos (by rfl)];go_simp;go_at_call 58;refine(fJ (x/y) true b1 _ _ (HE.out.below HBc) hc1 (by have:=HG.out;omega) R1).mono ?_;rintro e wn ⟨rfl,hbn⟩;replace HBc:=aA HBc hbn;replace KA:=KA.below hbn;replace KB:=KB.below hbn;replace R2:=R2.below hbn;clear hbn R1;go_wp2_with fail;refine hK.out _ _ ?hS64 (fun hHeld=>?hR64)
 case hS64=>exact⟨KA.cell 0,KB.cell 0⟩
 try simp only[pS]
 refine wpAnyH_ready (rs:=[12]) (by kernel_rfl) (by simp) ?_;refine AllReadyH.cons (o:=_) rfl (fun K hK=>?hC65) AllReadyH.nil;rw[if_pos (by rfl)];go_simp;go_at_call 58;refine(HT0.out b2 _ _ (HE.out.below HBc)).mono ?_;rintro e wn ⟨rfl,hbn⟩;replace HBc:=aA HBc hbn;replace KA:=KA.below hbn;replace KB:=KB.below hbn;clear hbn R2;go_wp2_with fail;refine hK.out _ _ ?hS65 (fun hHeld=>?hR65)
 case hS65=>exact⟨KA.cell 0,KB.cell 0⟩
 try simp only[pS]
 refine tk 13 (some 4) (?v66) rfl rfl ?hy66 ?hR66
 case hy66=>(intro w hSw;(try dsimp only at hSw);go_simp;try rfl)
 simp only[pS];refine tk 14 (some 5) (?v67) rfl rfl ?hy67 ?hR67
 case hy67=>(intro w hSw;(try dsimp only at hSw);go_simp;try rfl)
 simp only[pS];refine tk 15 (some 6) (?v68) rfl rfl ?hy68 ?hR68
 case hy68=>(intro w hSw;(try dsimp only at hSw);go_simp;try rfl)
 simp only[pS];refine wpAnyH_done (by kernel_rfl) ?_ _;go_wp2;go_ret3;exact⟨rfl,HBc⟩
theorem Fv{m:List UInt8}(h:val m≠0):bK (aZ m)≠0:=by
 intro e;apply h;unfold val;rw[e];simp
theorem Ry(l m:List UInt8)(w:World)(hE:iE w)(hl:l.length≤10000000000)(hm:m.length≤10000000000)(h0:val m≠0)(h:dD l=dD m∨bK (aZ l)%bK (aZ m)=0):
  Calls Tryz.prog 96 #[.string ⟨l.toArray⟩,.string ⟨m.toArray⟩] w fun e w'=>e=.returned (.tuple #[.string ⟨(aJ ((val l).fdiv (val m))).toArray⟩,.string ⟨(aJ ((val l).fmod (val m))).toArray⟩,.int .i64 0])∧Below w.heap.size w w':=by
 have hy:=Fv h0;have hv:=Lp hy h;rw[fG l,fG m,hv.1,hv.2,←yC,←yC]
 by_cases hs:dD l=dD m
 ·rw[hs];cases hn:dD m
  ·exact Na _ _ l m w hE hl hm rfl rfl (by rw[hs,hn]) hn.symm hy
  ·exact Mz _ _ l m w hE hl hm rfl rfl (by rw[hs,hn]) hn.symm hy
 ·have hz:bK (aZ l)%bK (aZ m)=0:=by rcases h with h|h;exact absurd h hs;exact h
  rw[hz];cases hn:dD m
  ·have hn':dD l=true:=by rw[hn] at hs;simpa using hs
   rw[hn'];exact Jk _ _ l m w hE hl hm rfl rfl hn'.symm hn.symm hy hz
  ·have hn':dD l=false:=by rw[hn] at hs;simpa using hs
   rw[hn'];exact Jl _ _ l m w hE hl hm rfl rfl hn'.symm hn.symm hy hz
end Go.Proofs.YtejkibnaidiklaaGreatDoor
