/-The curve of a piece:the reference. -/
import Derived.Test.YtegeknjkgadehaaGreatTqT
namespace Go.Proofs.YtegeknjkgadehaaGreat
open Go Go.RowKit
noncomputable section
variable {A A' B B' C C' D D' E E' F F' K K' N U':Int}{U V X Y Z:List CellD}{A0 Bl:List Cv}{vs vs':List Value}{M M' i j k:Nat}{v:Value}
theorem LQ {U:Int}(_hN:0<=N/\N<=255) (I:cq 51 [.a (([.i .u8 K]++[.i .u8 U]++[.i .i8 A]++[.i .i8 B]++[.i .i8 C]++[.i .i8 D]++[.i .i8 E]++[.i .i8 F]))] [.c (.s ((A0).length) (aD aC (A0)))]) (J:cq 51 [.a (([.i .u8 K']++[.i .u8 U']++[.i .i8 A']++[.i .i8 B']++[.i .i8 C']++[.i .i8 D']++[.i .i8 E']++[.i .i8 F']))] [.c (.s ((Bl).length) (aD aC (Bl)))]) (h0:A0=[]):cq 16 [.a ((([.i .u8 K]++[.i .u8 U]++[.i .i8 A]++[.i .i8 B]++[.i .i8 C]++[.i .i8 D]++[.i .i8 E]++[.i .i8 F])++([.i .u8 K']++[.i .u8 U']++[.i .i8 A']++[.i .i8 B']++[.i .i8 C']++[.i .i8 D']++[.i .i8 E']++[.i .i8 F'])++[.i .u8 N]))] [.a (([.b false]++g9++g9++[.b false]++AF++AF)),.c (.b false)]:=by refine dP Tryz.func16 59 [.cell 2 53,.tmp 3] rfl<|ab<|ag<|ab<|fS 8 [] ?_;refine aq (jj (([.i .u8 K]++[.i .u8 U]++[.i .i8 A]++[.i .i8 B]++[.i .i8 C]++[.i .i8 D]++[.i .i8 E]++[.i .i8 F])) WI rfl) ?_;refine aw rfl (I) ?_;refine aq (jj (([.i .u8 K']++[.i .u8 U']++[.i .i8 A']++[.i .i8 B']++[.i .i8 C']++[.i .i8 D']++[.i .i8 E']++[.i .i8 F'])) WI rfl) ?_;refine aw rfl (J)<|ab<|ab<|bN<|cZ 2 ?_;refine bj (dM (c:=true) (sx rfl) (by rw[h0];rfl)) ?_;refine bO<|fp rfl<|ab<|bN<|bj (am (us:=([.b false]++g9++g9++[.b false]++AF++AF)) Lw Ba rfl rfl rfl) ?_;refine gm<|aU ?_;exact ae (fX (us:=([.b false]++g9++g9++[.b false]++AF++AF)) ba rfl rfl (by kernel_rfl) (by kernel_rfl) (aj aa))
theorem S4 {U:Int}(hN:0<=N/\N<=255) (d4:cq 51 [.a (([.i .u8 K]++[.i .u8 U]++[.i .i8 A]++[.i .i8 B]++[.i .i8 C]++[.i .i8 D]++[.i .i8 E]++[.i .i8 F]))] [.c (.s ((A0).length) (aD aC (A0)))]) (d2:cq 51 [.a (([.i .u8 K']++[.i .u8 U']++[.i .i8 A']++[.i .i8 B']++[.i .i8 C']++[.i .i8 D']++[.i .i8 E']++[.i .i8 F']))] [.c (.s ((Bl).length) (aD aC (Bl)))]) (hg:CvG (A0.getD 0 db)) (h0:0<A0.length) (hB: ∀d∈Bl,d.good) (lB:Bl.length<=2):cq 16 [.a ((([.i .u8 K]++[.i .u8 U]++[.i .i8 A]++[.i .i8 B]++[.i .i8 C]++[.i .i8 D]++[.i .i8 E]++[.i .i8 F])++([.i .u8 K']++[.i .u8 U']++[.i .i8 A']++[.i .i8 B']++[.i .i8 C']++[.i .i8 D']++[.i .i8 E']++[.i .i8 F'])++[.i .u8 N]))] [.a (aC (((Ga A0 Bl).getD (N.toNat%(Ga A0 Bl).length) db))),.c (.b true)]:=by
 have a4:=h0;have c7:=JK (A0:=A0) (Bl:=Bl) hg.ne;obtain⟨ix,b3⟩: ∃ix,ix=N.toNat%(Ga A0 Bl).length:=⟨_,rfl⟩;have d3:ix<(Ga A0 Bl).length:=by rw[b3];exact Nat.mod_lt _ c7
 have c3: ∀p∈(fW (A0.getD 0 db) Bl),GP p/\_:=By hg.g hB;have d5:(Ga A0 Bl).length=(um (A0.getD 0 db) (fW (A0.getD 0 db) Bl)).length:=rfl;refine dP Tryz.func16 59 [.cell 2 53,.tmp 3] rfl<|ab<|ag<|ab<|fS 8 [] ?_;refine aq (jj (([.i .u8 K]++[.i .u8 U]++[.i .i8 A]++[.i .i8 B]++[.i .i8 C]++[.i .i8 D]++[.i .i8 E]++[.i .i8 F])) WI rfl) ?_;refine aw rfl (d4) ?_;refine aq (jj (([.i .u8 K']++[.i .u8 U']++[.i .i8 A']++[.i .i8 B']++[.i .i8 C']++[.i .i8 D']++[.i .i8 E']++[.i .i8 F'])) WI rfl) ?_;refine aw rfl (d2)<|ab<|ab<|bN<|cZ 2 ?_;refine bj (dM (c:=false) (sx rfl) (by simpa using Nat.ne_of_gt h0)) ?_;refine bO<|ck rfl<|aA<|ab<|bN<|bj (my rfl) ?_;refine bO ?_;refine mB (ι:=Unit) (fun i=>⟨59,[(1,.p 1 0),(2,.p 2 0),(4,.v (.c (.s ((A0).length) (aD aC (A0))))),(5,.v (.c (.s ((Bl).length) (aD aC (Bl))))),(6,.v (.c (.s (((fW (A0.getD 0 db) Bl)).length) (aD ah ((fW (A0.getD 0 db) Bl))))))],[(1,68,(([.i .u8 K]++[.i .u8 U]++[.i .i8 A]++[.i .i8 B]++[.i .i8 C]++[.i .i8 D]++[.i .i8 E]++[.i .i8 F])++([.i .u8 K']++[.i .u8 U']++[.i .i8 A']++[.i .i8 B']++[.i .i8 C']++[.i .i8 D']++[.i .i8 E']++[.i .i8 F'])++[.i .u8 N])),(2,53,([.b false]++g9++g9++[.b false]++AF++AF))]⟩) ?_ ?_
 .refine ab<|ag<|aM ?_;refine bK (ι:=Sum ({n:Nat // n<=Bl.length/\(fW (A0.getD 0 db) (Bl.take n))=[]}) ({x9:Nat×Nat×List CellD // x9.1<=Bl.length/\(fW (A0.getD 0 db) (Bl.take x9.1)).length<=x9.2.1/\x9.2.1<=maxLen/\x9.2.2.length=(x9.2.1-(fW (A0.getD 0 db) (Bl.take x9.1)).length)*20})) (fun i=>match i with| .inl i=>⟨59,[(1,.p 1 0),(2,.p 2 0),(4,.v (.c (.s ((A0).length) (aD aC (A0))))),(5,.v (.c (.s ((Bl).length) (aD aC (Bl))))),(6,.z),(7,.v (.c (.i .i64 (i.1:Int))))],[(1,68,(([.i .u8 K]++[.i .u8 U]++[.i .i8 A]++[.i .i8 B]++[.i .i8 C]++[.i .i8 D]++[.i .i8 E]++[.i .i8 F])++([.i .u8 K']++[.i .u8 U']++[.i .i8 A']++[.i .i8 B']++[.i .i8 C']++[.i .i8 D']++[.i .i8 E']++[.i .i8 F'])++[.i .u8 N])),(2,53,([.b false]++g9++g9++[.b false]++AF++AF))]⟩| .inr i=>⟨59,[(1,.p 1 0),(2,.p 2 0),(4,.v (.c (.s ((A0).length) (aD aC (A0))))),(5,.v (.c (.s ((Bl).length) (aD aC (Bl))))),(6,.o 41 ((fW (A0.getD 0 db) (Bl.take i.1.1)).length) i.1.2.1),(7,.v (.c (.i .i64 (i.1.1:Int))))],[(1,68,(([.i .u8 K]++[.i .u8 U]++[.i .i8 A]++[.i .i8 B]++[.i .i8 C]++[.i .i8 D]++[.i .i8 E]++[.i .i8 F])++([.i .u8 K']++[.i .u8 U']++[.i .i8 A']++[.i .i8 B']++[.i .i8 C']++[.i .i8 D']++[.i .i8 E']++[.i .i8 F'])++[.i .u8 N])),(2,53,([.b false]++g9++g9++[.b false]++AF++AF)),(41,42,aD ah (fW (A0.getD 0 db) (Bl.take i.1.1))++i.1.2.2)]⟩) (fun i=>match i with| .inl i=>Bl.length-i.1| .inr i=>Bl.length-i.1.1) (.inl ⟨0,iB _,rfl⟩) (au (bt rfl) (bt rfl) rfl) ?_;rintro(⟨n,h2,J⟩|⟨⟨n,c,rs⟩,h2,J,h4,h5⟩)
  .replace h2:n<=Bl.length:=h2;replace J:(fW (A0.getD 0 db) (Bl.take n))=[]:=J;dsimp only;refine ab<|ab<|ag ?_;refine aJ rfl (fun a5=>?_) (fun a5=>?_)
   .have I:n<Bl.length:=by have:=of_decide_eq_true a5;omega
    refine aA<|ab<|aM<|ab<|fS 13 []<|aq (mP db ai a4 pW rfl)<|aq (zu ai ba rfl)<|aq (mP db ai I pW rfl)<|aq (zu ai ba rfl)<|aw rfl (MV hg.g (hB _ (dG I))) ?_;rcases je (en (A0.getD 0 db) (Bl.getD n db)).length with a3|a3
    .refine ag<|ar (Ei iw rfl rfl a3 rfl) ?_;refine ag<|ar (eg (by omega) rfl) ?_;exact⟨.inl ⟨n+1,I,by rw[mv I,J,qZ];exact jM.1 a3⟩,au (bt rfl) (bt rfl) rfl,by show Bl.length-(n+1)<Bl.length-n;omega⟩
    .refine ag ?_;refine DL.mk<|Pb (q:=(en (A0.getD 0 db) (Bl.getD n db)).length) (ys:=aD ah ((en (A0.getD 0 db) (Bl.getD n db)))) (zs':=aD ah (en (A0.getD 0 db) (Bl.getD n db))) iw rfl rfl (aK ao _) (a3) (by have:=rM (a:=(A0.getD 0 db)) (c:=(Bl.getD n db));omega) (rJ (by have:=rM (a:=(A0.getD 0 db)) (c:=(Bl.getD n db));omega)) rfl (rfl) rfl (fun R a9 b6 b5 b7=>iJ ?_);refine ag<|ar (eg (by omega) rfl) ?_;exact⟨.inr ⟨⟨n+1,R,a9⟩,I,by show(fW (A0.getD 0 db) (Bl.take (n+1))).length<=R;rw[mv I,J];exact b6,b5,by show a9.length=(R-(fW (A0.getD 0 db) (Bl.take (n+1))).length)*20;rw[mv I,J];exact b7⟩,au ⟨rfl,rfl,rfl,rfl,congrArg (fun q=>some (DV.o 41 q R)) (by rw[mv I,J];rfl),rfl,trivial⟩ ⟨rfl,rfl,congrArg (fun q=>some (42,aD ah q++a9)) (by rw[mv I,J];rfl),trivial⟩ rfl,by show Bl.length-(n+1)<Bl.length-n;omega⟩
   .have m1:[]=(fW (A0.getD 0 db) Bl):=by rw[<-J,dS (by have:=of_decide_eq_false a5;omega)]
    refine Tp (t:=6) rfl<|bH ?_;exact⟨(),au ⟨rfl,rfl,rfl,rfl,congrArg (fun q=>some (DV.v (.c (.s (List.length q) (aD ah q))))) (show([]:List Pt)=(fW (A0.getD 0 db) Bl) from m1),trivial⟩ (bt rfl) rfl⟩
  .dsimp only at h2 J h4 h5;have h6:(fW (A0.getD 0 db) (Bl.take n)).length<=8:=gG CQ (by rw[fF];omega);dsimp only;refine ab<|ab<|ag ?_;refine aJ rfl (fun b4=>?_) (fun b4=>?_)
   .have I:n<Bl.length:=by have:=of_decide_eq_true b4;omega
    have h7:=rM (a:=(A0.getD 0 db)) (c:=(Bl.getD n db));refine aA<|ab<|aM<|ab<|fS 13 []<|aq (mP db ai a4 pW rfl)<|aq (zu ai ba rfl)<|aq (mP db ai I pW rfl)<|aq (zu ai ba rfl)<|aw rfl (MV hg.g (hB _ (dG I)))<|ag ?_;refine DL.mk<|IB (n:=(fW (A0.getD 0 db) (Bl.take n)).length) (c:=c) (q:=((en (A0.getD 0 db) (Bl.getD n db))).length) (us:=aD ah (fW (A0.getD 0 db) (Bl.take n))) (eD:=rs) (N':=(fW (A0.getD 0 db) (Bl.take n)).length+(en (A0.getD 0 db) (Bl.getD n db)).length) (zs':=aD ah (fW (A0.getD 0 db) (Bl.take n))++aD ah (en (A0.getD 0 db) (Bl.getD n db))) iw rfl rfl rfl (rfl) (aK ao _) (h5) (aK ao _) (by decide) (by omega) ‹_› (by omega) (rJ (by omega)) (.inl rfl) (rfl) (rfl) rfl (fun W a6 c6 c5 c8=>iJ ?_);refine ag<|ar (eg (by omega) rfl) ?_;exact⟨.inr ⟨⟨n+1,W,a6⟩,I,by show(fW (A0.getD 0 db) (Bl.take (n+1))).length<=W;rw[mv I,dB];exact c6,c5,by show a6.length=(W-(fW (A0.getD 0 db) (Bl.take (n+1))).length)*20;rw[mv I,dB];exact c8⟩,au ⟨rfl,rfl,rfl,rfl,congrArg (fun q=>some (DV.o 41 q W)) (by rw[mv I,dB]),rfl,trivial⟩ ⟨rfl,rfl,congrArg (fun q=>some (42,q++a6)) (by rw[mv I,iZ]),trivial⟩ rfl,by show Bl.length-(n+1)<Bl.length-n;omega⟩
   .have m1:(fW (A0.getD 0 db) (Bl.take n))=(fW (A0.getD 0 db) Bl):=by rw[dS (by have:=of_decide_eq_false b4;omega)]
    refine fa (t:=6) (m:=20) (us:=aD ah (fW (A0.getD 0 db) (Bl.take n))) rfl rfl (qX (n:=(fW (A0.getD 0 db) (Bl.take n)).length) (aK ao _) ‹_› (by omega)) (by omega) ‹_› (mC (aK ao _))<|bH ?_;exact⟨(),au ⟨rfl,rfl,rfl,rfl,congrArg (fun q=>some (DV.v (.c (.s (List.length q) (aD ah q))))) m1,trivial⟩ (bt rfl) rfl⟩
 .rintro⟨⟩;try dsimp only
  refine ab<|ag<|ar (mP db ai a4 pW rfl)<|ar (zu ai ba rfl)<|ac rfl (Qz hg.g (fun p hp=>(c3 p hp).1) (gG CQ (by omega)) (fun p hp=>(c3 p hp).2) (Fm hg.ne))<|ab<|ag ?_;refine ar (bg wl rfl) ?_;refine ar (bi (r:=N) Wy aiN rfl (lq (by omega) (by omega)) rfl) ?_;refine ar (fz (r:=(ix:Int)) rfl rfl (by omega) (by rw[b3,ku hN.1,Int.natCast_emod,Int.toNat_of_nonneg hN.1];rfl) rfl) ?_;refine ar (mP db ai d3 pW rfl)<|ar (zu ai ba rfl) ?_;refine n6 (ce ba rfl rfl rfl (ai _) rfl rfl) ?_;refine aU ?_;rw[<-b3];exact ae (fX (us:=aC (((Ga A0 Bl).getD ix db))) ba rfl rfl (Pu _) (ai _) (aj aa))
def adh (X:List CellD):Prop:=cq 16 [.a X] [.a (([.b false]++g9++g9++[.b false]++AF++AF)),.c (.b false)]\/ ∃c,CvV c/\cq 16 [.a X] [.a (aC c),.c (.b true)]
theorem M7 {U:Int}(w0:0<=K/\K<=255) (w1:0<=U/\U<=255) (w2: -128<=A/\A<=127) (w3: -128<=B/\B<=127) (w4: -128<=C/\C<=127) (w5: -128<=D/\D<=127) (w6: -128<=E/\E<=127) (w7: -128<=F/\F<=127) (w8:0<=K'/\K'<=255) (w9:0<=U'/\U'<=255) (a3: -128<=A'/\A'<=127) (a6: -128<=B'/\B'<=127) (a4: -128<=C'/\C'<=127) (J: -128<=D'/\D'<=127) (b3: -128<=E'/\E'<=127) (I: -128<=F'/\F'<=127) (W:0<=N/\N<=255):adh ((([.i .u8 K]++[.i .u8 U]++[.i .i8 A]++[.i .i8 B]++[.i .i8 C]++[.i .i8 D]++[.i .i8 E]++[.i .i8 F])++([.i .u8 K']++[.i .u8 U']++[.i .i8 A']++[.i .i8 B']++[.i .i8 C']++[.i .i8 D']++[.i .i8 E']++[.i .i8 F'])++[.i .u8 N])):=by
 have b4:=aeS w0 w1 w2 w3 w4 w5 w6 w7;have R:=aeS w8 w9 a3 a6 a4 J b3 I;by_cases h0:yF K U A B C D E F=[];·exact .inl (LQ W b4 R h0)
 .have hp:0<(yF K U A B C D E F).length:=List.length_pos_iff.2 h0;have hg:=Ds (K:=K) w1.1 w2 w3 w4 w5 w6 w7;have hB: ∀d∈yF K' U' A' B' C' D' E' F',d.good:=fun d hd=>(Ds (K:=K') w9.1 a3 a6 a4 J b3 I d hd).g;have a9:=hg _ (dG (d:=db) hp);have b5:=ag9 (K:=K) w1.1 w2 w3 w4 w5 w6 w7 _ (dG (d:=db) hp);have a5:=JK (A0:=yF K U A B C D E F) (Bl:=yF K' U' A' B' C' D' E' F') a9.ne;exact .inr ⟨_,abM b5 hB _ (dG (Nat.mod_lt _ a5)),S4 W b4 R a9 hp hB Y5⟩
theorem abO (lX:X.length=17) (lY:Y.length=17) (_lZ:Z.length=6) (lU:U.length=66) (lV:V.length=66) {x y:Bool}(hN:(x&&y)=false) (h1:cq 16 [.a X] [.a U,.c (.b x)]) (W:cq 16 [.a Y] [.a V,.c (.b y)]) (I:cq 6 [] [.c (.b true)]):cq 4 [.a (X),.a (Y),.a (Z)] [.c (.b true)]:=by
 refine bE Tryz.func4 rfl ?_;refine ar (eY (lX) XA rfl) ?_;refine ac rfl (h1) ?_;refine n6 (ce ba rfl rfl rfl ‹_› rfl rfl) ?_;refine ar (eY (lY) XA rfl)<|ac rfl (W)<|n6 (ce ba rfl rfl rfl ‹_› rfl rfl) ?_;refine ac rfl (I)<|ar (aY rfl) ?_;refine iN (aY rfl) (fun c1 R=>?_);cases c1
 .refine dg rfl (fun J=>?_) (fun J=>?_)
  .refine ac rfl (I) ?_;exact ae (aj aa)
  .exact absurd hN (by rw[show x=true from by simpa using R,show y=true from by simpa using J];decide)
 .refine n7 rfl<|ac rfl (I) ?_;exact ae (aj aa)
theorem aiC (lX:X.length=17) (lY:Y.length=17) (lZ:Z.length=6) {c d:Cv}(R:CvV c) (vd:CvV d) {p:Pt}(hp:GP p) (h1:cq 16 [.a X] [.a (aC c),.c (.b true)]) (h2:cq 16 [.a Y] [.a (aC d),.c (.b true)]) (hO:cq 7 [.a Z] [.a (ah p)]) (e6:cq 6 [] [.c (.b true)]):cq 4 [.a (X),.a (Y),.a (Z)] [.c (.b true)]:=by
 have vK:=acp R;have mK:=PI R;have gP:=aci R vd hp;have l8:=adL (c:=c) (d:=d) (p:=p);have l3:=SE (c:=c);have m4:(4:Nat)<=maxLen:=by decide
 have ld:=HI (c:=c) (d:=d);refine dP Tryz.func4 157 [.tmp 6] rfl<|ab<|ag<|ab<|ag ?_;refine ar (eY (lX) XA rfl) ?_;refine ac rfl (h1) ?_;refine n6 (ce ba rfl rfl rfl (ai _) rfl rfl) ?_;refine ab<|ag ?_;refine ar (eY (lY) XA rfl) ?_;refine ac rfl (h2) ?_;refine n6 (ce ba rfl rfl rfl (ai _) rfl rfl) ?_;refine ab<|ab<|ag<|ac rfl (e6)<|ar (aY rfl)<|ar (aY rfl)<|ck rfl<|aA<|ab<|fS 10 [] ?_;refine aq (eY (lZ) aid rfl) ?_;refine aw rfl (hO) ?_;refine aq (aR (us:=ah c.p) bb rfl rfl (gz _) rfl rfl) ?_;refine aq (aR (us:=ah c.q) bb rfl rfl (ju _) rfl rfl) ?_;refine aq (aR (us:=ah d.p) bb rfl rfl (gz _) rfl rfl) ?_;refine DQ.mk<|ag7 (kO (us:=ah p++ah c.p++ah c.q++ah d.p) iw rfl rfl (by decide) (by decide) rfl) rfl<|dY ?_;refine ab<|ag ?_;refine ar (eY (ai _) ba rfl) ?_;refine ar (eY (ai _) ba rfl) ?_;refine ac rfl (meT R vd)<|ab<|ag ?_;refine DL.mk<|IB (n:=4) (c:=4) (q:=(Oj c d).length) (us:=ah p++ah c.p++ah c.q++ah d.p) (eD:=[]) (N':=(sF c d p).length) (zs':=aD ah (sF c d p)) iw rfl rfl rfl (rfl) (by kernel_rfl) (rfl) (aK ao _) (by decide) (by omega) ‹_› (by omega) (rJ (by omega)) (.inr rfl) (Nc) (by unfold sF;rw[iZ];exact congrArg (· ++_) (by show _=ah p++(ah c.p++(ah c.q++(ah d.p++[])));rw[ws,oE,oE])) rfl (fun f4 g0 f2 e9 f3=>iJ ?_);refine ab<|ag ?_;refine ar (eY (ai _) ba rfl) ?_;refine ac rfl (ahs R) ?_;refine ab<|ab<|fa (t:=11) (m:=20) (us:=aD ah (sF c d p)) rfl rfl (qX (n:=(sF c d p).length) (aK ao _) ‹_› (by omega)) (by omega) ‹_› (mC (aK ao _))<|ag ?_;refine aM<|bK (ι:={n:Nat // n<=(sF c d p).length}) (fun i=>⟨157,[(7,.p 7 0),(14,.v (.c (.s (((dC c)).length) (aD aC ((dC c)))))),(67,.v (.c (.s (((sF c d p)).length) (aD ah ((sF c d p)))))),(68,.v (.c (.i .i64 (((sF c d p).length:Int))))),(69,.v (.c (.i .i64 (i.1:Int))))],[(7,53,aC c)]⟩) (fun i=>(sF c d p).length-i.1) ⟨0,iB _⟩ (au (bt rfl) ⟨rfl,trivial⟩ rfl) ?_;rintro⟨n,b6⟩;replace b6:n<=(sF c d p).length:=b6;dsimp only;refine ab<|ag<|ab ?_;refine aJ rfl (fun b4=>?_) (fun b4=>?_)
 .have g1:n<(sF c d p).length:=by have:=of_decide_eq_true b4;omega
  have gp:=gP _ (dG (d:=dPt) g1);refine aA<|ab<|aM<|ab<|ag<|ar (mP dPt ao g1 fr rfl)<|ar (zu ao bb rfl)<|ab<|ag<|ab<|ab<|ag ?_;refine aM<|bK (ι:={m:Nat // m<=(dC c).length}) (fun i=>⟨157,[(7,.p 7 0),(14,.v (.c (.s (((dC c)).length) (aD aC ((dC c)))))),(67,.v (.c (.s (((sF c d p)).length) (aD ah ((sF c d p)))))),(68,.v (.c (.i .i64 (((sF c d p).length:Int))))),(69,.v (.c (.i .i64 (n:Int)))),(16,.p 16 0),(17,.v (.c (.b (Mh (dC c) ((sF c d p).getD n dPt) i.1)))),(73,.v (.c (.s (((dC c)).length) (aD aC ((dC c)))))),(74,.v (.c (.i .i64 (((dC c).length:Int))))),(75,.v (.c (.i .i64 (i.1:Int))))],[(7,53,aC c),(16,42,ah ((((sF c d p).getD n dPt))))]⟩) (fun i=>(dC c).length-i.1) ⟨0,iB _⟩ (au (bt rfl) (bt rfl) rfl) ?_;rintro⟨m,W⟩;replace W:m<=(dC c).length:=W;dsimp only;refine ab<|ag<|ab ?_;refine aJ rfl (fun b5=>?_) (fun b5=>?_)
  .have I:m<(dC c).length:=by have:=of_decide_eq_true b5;omega
   have vm:=vK _ (dG (d:=db) I);have mm:=mK _ (dG (d:=db) I);have hA:=acw vm mm gp;refine aA<|ab<|aM<|ab<|ag<|ar (mP db ai I pW rfl)<|ar (zu ai ba rfl)<|n6 (ce ba rfl rfl rfl (ai _) rfl rfl) ?_;refine ab<|ag ?_;refine ar (eY (ai _) ba rfl) ?_;refine ac rfl (aer vm gp)<|ab<|ab<|ag ?_;refine ar (eY (ai _) ba rfl) ?_;refine ac rfl (tW vm gp) ?_;refine iN (aY rfl) (fun c4 c3=>?_);cases c4
   .have i1:(mR ((dC c).getD m db) ((sF c d p).getD n dPt)==0)=false:=c3;rw[i1,oG] at hA;refine ar (eA rfl rfl dX rfl) ?_;refine aJ rfl (fun b7=>?_) (fun b7=>?_);·exact absurd b7 (by rw[<-hA];decide)
    .refine aA<|ag ?_;refine iN (aY rfl) (fun c6 d6=>?_);cases c6
     .have i3:Mh (dC c) ((sF c d p).getD n dPt) m=false:=d6;refine ar (eY (ai _) ba rfl) ?_;refine ac rfl (tW vm gp)<|ag ?_;refine ar (eg (by omega) rfl) ?_;exact⟨⟨m+1,I⟩,au ⟨rfl,rfl,rfl,rfl,rfl,rfl,congrArg (fun q:Bool=>some (DV.v (.c (.b q)))) (((show(((dC c).getD m db).on ((sF c d p).getD n dPt))=(Mh (dC c) ((sF c d p).getD n dPt) m||(((dC c).getD m db).on ((sF c d p).getD n dPt))) from by rw[i3,u9])).trans (BO I).symm),rfl,rfl,rfl,trivial⟩ (bt rfl) rfl,by show(dC c).length-(m+1)<(dC c).length-m;omega⟩
     .have i3:Mh (dC c) ((sF c d p).getD n dPt) m=true:=d6;refine ag<|ar (eg (by omega) rfl) ?_;exact⟨⟨m+1,I⟩,au ⟨rfl,rfl,rfl,rfl,rfl,rfl,congrArg (fun q:Bool=>some (DV.v (.c (.b q)))) (((show true=(Mh (dC c) ((sF c d p).getD n dPt) m||(((dC c).getD m db).on ((sF c d p).getD n dPt))) from by rw[i3];rfl)).trans (BO I).symm),rfl,rfl,rfl,trivial⟩ (bt rfl) rfl,by show(dC c).length-(m+1)<(dC c).length-m;omega⟩
   .have i1:(mR ((dC c).getD m db) ((sF c d p).getD n dPt)==0)=true:=c3;rw[i1,ii] at hA;refine ar (eA rfl rfl dX rfl) ?_;refine aJ rfl (fun d2=>?_) (fun d2=>?_);·exact absurd d2 (by rw[hA];simp)
    .refine aA<|ag ?_;refine iN (aY rfl) (fun c8 d3=>?_);cases c8
     .have i3:Mh (dC c) ((sF c d p).getD n dPt) m=false:=d3;refine ar (eY (ai _) ba rfl) ?_;refine ac rfl (tW vm gp)<|ag ?_;refine ar (eg (by omega) rfl) ?_;exact⟨⟨m+1,I⟩,au ⟨rfl,rfl,rfl,rfl,rfl,rfl,congrArg (fun q:Bool=>some (DV.v (.c (.b q)))) (((show(((dC c).getD m db).on ((sF c d p).getD n dPt))=(Mh (dC c) ((sF c d p).getD n dPt) m||(((dC c).getD m db).on ((sF c d p).getD n dPt))) from by rw[i3,u9])).trans (BO I).symm),rfl,rfl,rfl,trivial⟩ (bt rfl) rfl,by show(dC c).length-(m+1)<(dC c).length-m;omega⟩
     .have i3:Mh (dC c) ((sF c d p).getD n dPt) m=true:=d3;refine ag<|ar (eg (by omega) rfl) ?_;exact⟨⟨m+1,I⟩,au ⟨rfl,rfl,rfl,rfl,rfl,rfl,congrArg (fun q:Bool=>some (DV.v (.c (.b q)))) (((show true=(Mh (dC c) ((sF c d p).getD n dPt) m||(((dC c).getD m db).on ((sF c d p).getD n dPt))) from by rw[i3];rfl)).trans (BO I).symm),rfl,rfl,rfl,trivial⟩ (bt rfl) rfl,by show(dC c).length-(m+1)<(dC c).length-m;omega⟩
  .have hm:m=(dC c).length:=by have:=of_decide_eq_false b5;omega
   have hO:=VD R gp hm;refine bH<|ab<|ag ?_;refine ar (eY (ai _) ba rfl) ?_;refine ac rfl (tW R gp) ?_;refine ar (eA rfl rfl dX rfl) ?_;refine aJ rfl (fun c5=>?_) (fun c5=>?_);·exact absurd c5 (by rw[hO];simp)
   .refine aA<|ag<|ar (eg (by omega) rfl) ?_;exact⟨⟨n+1,g1⟩,au (bt rfl) ⟨rfl,trivial⟩ rfl,by show(sF c d p).length-(n+1)<(sF c d p).length-n;omega⟩
 .have hn:n=(sF c d p).length:=by have:=of_decide_eq_false b4;omega
  refine bH<|ab<|ab<|ag ?_;refine aM<|bK (ι:={m:Nat // m<=(dC c).length}) (fun i=>⟨157,[(7,.p 7 0),(108,.v (.c (.s (((dC c)).length) (aD aC ((dC c)))))),(109,.v (.c (.i .i64 (((dC c).length:Int))))),(110,.v (.c (.i .i64 (i.1:Int))))],[(7,53,aC c)]⟩) (fun i=>(dC c).length-i.1) ⟨0,iB _⟩ (au (bt rfl) ⟨rfl,trivial⟩ rfl) ?_;rintro⟨m,W⟩;replace W:m<=(dC c).length:=W;dsimp only;refine ab<|ag<|ab ?_;refine aJ rfl (fun a6=>?_) (fun a6=>?_)
  .have I:m<(dC c).length:=by have:=of_decide_eq_true a6;omega
   obtain⟨op,oq,hz,hr⟩:=YO R (dG (d:=db) I);have vm:=vK _ (dG (d:=db) I);refine aA<|ab<|aM<|ab<|ag<|ar (mP db ai I pW rfl)<|ar (zu ai ba rfl)<|n6 (ce ba rfl rfl rfl (ai _) rfl rfl) ?_;refine ab<|ag ?_;refine ar (eY (ai _) ba rfl) ?_;refine ar (aR (us:=ah (((dC c).getD m db)).p) bb rfl rfl (gz _) rfl rfl) ?_;refine ar (aR (us:=ah (((dC c).getD m db)).q) bb rfl rfl (ju _) rfl rfl) ?_;refine ac rfl (abT R (ew vm.g) (f5 vm.g) op oq)<|ab<|ag<|ar (aY rfl) ?_;refine iN (aY rfl) (fun e3 d5=>?_);cases e3
   .refine ar (cT gC rfl rfl (mr _) rfl) ?_;refine iN (aY rfl) (fun e5 a5=>?_);cases e5
    .have i1:c.isArc=false:=a5;refine ar (aY rfl) ?_;refine ar (cT gC rfl rfl (mr _) rfl) ?_;refine iN (aY rfl) (fun d7 c7=>?_);cases d7;·exact absurd c7 (by rw[i1];decide)
     .rw[i1] at hr;have J:(decide (a7 c ((dC c).getD m db).p ((dC c).getD m db).q>0)==decide (cP c.p c.q<0))=false:=hr;refine ar (aR (us:=ah c.p) bb rfl rfl (gz _) rfl rfl) ?_;refine ar (aR (us:=ah c.q) bb rfl rfl (ju _) rfl rfl) ?_;refine ac rfl (sR (ew R.g) (f5 R.g))<|ar (r9 rfl rfl dX rfl) ?_;refine aJ rfl (fun b3=>?_) (fun b3=>?_);·exact absurd b3 (by rw[J];decide)
      .refine aA<|ag<|ar (eg (by omega) rfl) ?_;exact⟨⟨m+1,I⟩,au (bt rfl) ⟨rfl,trivial⟩ rfl,by show(dC c).length-(m+1)<(dC c).length-m;omega⟩
    .have i1:c.isArc=true:=a5;refine ar (cT gC rfl rfl (yl _) rfl) ?_;refine ar (cT gC rfl rfl (yl _) rfl) ?_;refine ar (r9 rfl rfl dX rfl) ?_;refine iN (aY rfl) (fun e2 a4=>?_);cases e2
     .have i2:(((dC c).getD m db).cw==c.cw)=false:=a4;rw[i1,i2] at hr;have J:(decide (a7 c ((dC c).getD m db).p ((dC c).getD m db).q>0)==false)=false:=hr;refine ar (cT gC rfl rfl (mr _) rfl) ?_;refine iN (aY rfl) (fun e4 d4=>?_);cases e4
      .refine ar (r9 rfl rfl dX rfl) ?_;refine aJ rfl (fun a3=>?_) (fun a3=>?_);·exact absurd a3 (by rw[J];decide)
       .refine aA<|ag<|ar (eg (by omega) rfl) ?_;exact⟨⟨m+1,I⟩,au (bt rfl) ⟨rfl,trivial⟩ rfl,by show(dC c).length-(m+1)<(dC c).length-m;omega⟩
      .exact absurd d4 (by rw[i1];decide)
     .have i2:(((dC c).getD m db).cw==c.cw)=true:=a4;rw[i1,i2] at hr;have J:(decide (a7 c ((dC c).getD m db).p ((dC c).getD m db).q>0)==true)=false:=hr;refine DL.mk<|vX (mu rfl)<|iJ ?_;refine ar (r9 rfl rfl dX rfl) ?_;refine aJ rfl (fun a9=>?_) (fun a9=>?_);·exact absurd a9 (by rw[J];decide)
      .refine aA<|ag<|ar (eg (by omega) rfl) ?_;exact⟨⟨m+1,I⟩,au (bt rfl) ⟨rfl,trivial⟩ rfl,by show(dC c).length-(m+1)<(dC c).length-m;omega⟩
   .exact absurd (beq_iff_eq.1 d5) hz
  .refine bH<|ab<|ag<|aU ?_;exact ae (aj aa)
structure Pl where
 b:Nat
 z:Nat
inductive AV where
 |b (v:Bool)
 |i (k:IntKind) (n:Int)
 |l (x:Nat)
 |p (k off:Nat)
 |s (k off n lo:Nat) (ex:Bool) (m:Nat)
 |z
 |ev
 |np
 |f0 (g:FuncId)
 |fc (x y:AV)
def AV.fn:AV->Option (FuncId×List AV)
 | .f0 g=>some (g,[])
 | .fc x y=>match y.fn with
   |some (g,xs)=>some (g,x::xs)
   |none=>none
 |_=>none
inductive RdA (A Z:Nat->Prop) (w:World) (β:Nat->Pl):Value->AV->Prop
 |b (v:Bool):RdA A Z w β (.bool v) (.b v)
 |i (k:IntKind) (n:Int):RdA A Z w β (.int k n) (.i k n)
 |l (v:Value) (x:Nat):RdC Z w v (cL x)->RdA A Z w β v (.l x)
 |p (k off:Nat):A k->RdA A Z w β (.pointer (some ⟨(β k).b,off,none⟩)) (.p k off)
 |s (k off n lo:Nat) (ex:Bool) (m c:Nat):A k->n<=lo->lo<=c->c<=maxLen->(ex=true->c=lo)->off+c*m<=(β k).z->RdA A Z w β (.slice (some ⟨(β k).b,off,none⟩) n c) (.s k off n lo ex m)
 |z:RdA A Z w β (.slice none 0 0) .z
 |ev (a:Option Addr) (c:Nat):c<=maxLen->(∀ad,a=some ad->ad.spot=none)->RdA A Z w β (.slice a 0 c) .ev
 |np:RdA A Z w β (.pointer none) .np
 |f (g:FuncId) (cs:Array Value) (xs:List AV) (y:AV):y.fn=some (g,xs)->cs.size=xs.length->(∀(j:Nat) (v:Value) (x:AV),cs[j]? =some v->xs[j]? =some x->RdA A Z w β v x)->RdA A Z w β (.func (.func g) #[] cs) y
section
variable {A A' Z Z':Nat->Prop}{w w':World}{β β':Nat->Pl}
theorem RdA.mono (hk:Keep Z Z' w w') (W: ∀k,A k->A' k) (I: ∀k,A k->β' k=β k) {x:AV}(h:RdA A Z w β v x):RdA A' Z' w' β' v x:=by
 induction h with
 |b v=>exact .b v
 |i k n=>exact .i k n
 |l v x h=>exact .l v x (h.keep hk)
 |p k off h=>rw[<-I k h];exact .p k off (W k h)
 |s k off n lo ex m c h h1 J h3 h4 R=>rw[<-I k h] at R⊢;exact .s k off n lo ex m c (W k h) h1 J h3 h4 R
 |z=>exact .z
 |ev a c h J=>exact .ev a c h J
 |np=>exact .np
 |f g cs xs y h0 h _ ih=>exact .f g cs xs y h0 h ih
def RdAs (A Z:Nat->Prop) (w:World) (β:Nat->Pl) (vs:List Value) (xs:List AV):Prop:=vs.length=xs.length/\ ∀(j:Nat) (v:Value) (x:AV),vs[j]? =some v->xs[j]? =some x->RdA A Z w β v x
theorem RdAs.mono (R:Keep Z Z' w w') (hA: ∀k,A k->A' k) (I: ∀k,A k->β' k=β k) {xs:List AV}(h:RdAs A Z w β vs xs):RdAs A' Z' w' β' vs xs:=⟨h.1,fun j v x W J=>(h.2 j v x W J).mono R hA I⟩
theorem RdAs.nil:RdAs A Z w β [] []:=⟨rfl,fun j v x I=>by simp at I⟩
theorem RdAs.cons {x:AV}{xs:List AV}(h:RdA A Z w β v x) (hs:RdAs A Z w β vs xs):RdAs A Z w β (v::vs) (x::xs):=by
 refine⟨by simp[hs.1],fun j u y I J=>?_⟩;cases j with
 |zero=>simp at I J;subst I J;exact h
 |succ j=>simp at I J;exact hs.2 j u y I J
theorem RdAs.uncons {x:AV}{xs:List AV}(h:RdAs A Z w β (v::vs) (x::xs)):RdA A Z w β v x/\RdAs A Z w β vs xs:=
 ⟨h.2 0 v x rfl rfl,by have:=h.1;simpa using this,fun j u y I J=>h.2 (j+1) u y (by simpa using I) (by simpa using J)⟩
theorem RdAs.append {us us':List AV}(h:RdAs A Z w β vs us) (W:RdAs A Z w β vs' us'):RdAs A Z w β (vs++vs') (us++us'):=by
 refine⟨by simp[h.1,W.1],fun j v u J I=>?_⟩;by_cases R:j<vs.length
 .rw[ui R] at J;rw[ui (by rw[<-h.1];exact R)] at I;exact h.2 j v u J I
 .rw[xq (by omega)] at J;rw[xq (by rw[<-h.1];omega)] at I;rw[<-h.1] at I;exact W.2 _ v u J I
theorem RdAs.drop {us:List AV}(h:RdAs A Z w β vs us) (k:Nat):RdAs A Z w β (vs.drop k) (us.drop k):=
 ⟨by simp[h.1],fun j v u I J=>h.2 (k+j) v u (by simpa using I) (by simpa using J)⟩
theorem RdAs.take {us:List AV}(h:RdAs A Z w β vs us) (k:Nat):RdAs A Z w β (vs.take k) (us.take k):=by
 refine⟨by simp[h.1],fun j v u J I=>?_⟩;rw[kS] at J I;split at J;·rename_i R;rw[if_pos R] at I;exact h.2 j v u J I
 grind
theorem RdC.two {u:CellD}(h:RdC Z w v u):v.cells= #[v]/\v.oneCell'=true:=by
 cases h with
 |x v h1 I=>cases v<;>first|exact⟨rfl,rfl⟩|exact absurd rfl (h1 _)|exact absurd rfl (I _)
 |e v h1 I=>cases v<;>first|exact⟨rfl,rfl⟩|exact absurd rfl (h1 _)|exact absurd rfl (I _)
 |_=>exact⟨rfl,rfl⟩
theorem RdA.one {x:AV}(h:RdA A Z w β v x):v.cells= #[v]/\v.oneCell'=true:=by
 cases h with
 |l v x h=>exact h.two
 |_=>exact⟨rfl,rfl⟩
inductive Rp where
 |e
 |c (x:AV)
 |n (ls:Nat) (pu:Bool) (l r:Rp)
def Rp.flat:Rp->List AV
 | .e=>[]
 | .c x=>[x]
 | .n _ _ l r=>l.flat++r.flat
inductive XD where
 |c (x:AV)
 |a (n:Nat) (r:Rp)
def XD.cells:XD->List AV
 | .c x=>[x]
 | .a _ r=>r.flat
inductive XV where
 |c (x:AV)
 |a (n:Nat) (r:Rp)
 |t (ds:List XD)
 |u
def RdD (A Z:Nat->Prop) (w:World) (β:Nat->Pl) (v:Value):XD->Prop
 | .c x=>RdA A Z w β v x
 | .a _ r=> ∃cs:Array Value,v=.agg cs/\RdAs A Z w β cs.toList r.flat
def RdDs (A Z:Nat->Prop) (w:World) (β:Nat->Pl) (vs:List Value) (I:List XD):Prop:=vs.length=I.length/\ ∀(j:Nat) (v:Value) (d:XD),vs[j]? =some v->I[j]? =some d->RdD A Z w β v d
def RdX2 (A Z:Nat->Prop) (w:World) (β:Nat->Pl) (v:Value):XV->Prop
 | .c x=>RdD A Z w β v (.c x)
 | .a n r=>RdD A Z w β v (.a n r)
 | .t ds=> ∃vs:Array Value,v=.tuple vs/\RdDs A Z w β vs.toList ds
 | .u=>v=undef
theorem RdD.mono (J:Keep Z Z' w w') (R: ∀k,A k->A' k) (I: ∀k,A k->β' k=β k) {d:XD}(h:RdD A Z w β v d):RdD A' Z' w' β' v d:=by
 cases d with
 |c x=>exact RdA.mono J R I h
 |a n r=>obtain⟨cs,e,h⟩:=h;exact⟨cs,e,h.mono J R I⟩
theorem RdDs.mono (W:Keep Z Z' w w') (hA: ∀k,A k->A' k) (I: ∀k,A k->β' k=β k) {J:List XD}(h:RdDs A Z w β vs J):RdDs A' Z' w' β' vs J:=⟨h.1,fun j v d hv R=>(h.2 j v d hv R).mono W hA I⟩
theorem RdX2.mono (J:Keep Z Z' w w') (R: ∀k,A k->A' k) (I: ∀k,A k->β' k=β k) {x:XV}(h:RdX2 A Z w β v x):RdX2 A' Z' w' β' v x:=by
 cases x with
 |c x=>exact RdD.mono J R I (d:=.c x) h
 |a n r=>exact RdD.mono J R I (d:=.a n r) h
 |t W=>obtain⟨vs,e,h⟩:=h;exact⟨vs,e,h.mono J R I⟩
 |u=>exact h
theorem RdDs.nil:RdDs A Z w β [] []:=⟨rfl,fun j v x I=>by simp at I⟩
theorem RdD.cells {d:XD}(h:RdD A Z w β v d):RdAs A Z w β v.cells.toList d.cells:=by
 cases d with
 |c x=>rw[h.one.1];exact RdAs.cons h RdAs.nil
 |a n r=>obtain⟨cs,rfl,h⟩:=h;exact h
theorem RdAs.one {xs:List AV}(h:RdAs A Z w β vs xs): ∀v∈vs,v.oneCell'=true:=by
 intro v J;obtain⟨j,I⟩:=CS J;have hlt:j<xs.length:=by rw[<-h.1];exact(fM.1 I).1
 exact(h.2 j v _ I (gI hlt)).one.2
end
abbrev HF:=Nat->Option (TypeId×List AV)
abbrev TX:=Nat->Option XV
def Zs (V:Nat->Prop) (H:HF) (β:Nat->Pl):Nat->Prop:=fun b=>V b\/ ∃k,H k≠none/\(β k).b=b
structure Mem (V A:Nat->Prop) (H:HF) (β:Nat->Pl) (w:World):Prop where
 vlt: ∀b,V b->b<w.heap.size
 dom: ∀k,H k≠none->A k
 lt: ∀k,A k->(β k).b<w.heap.size
 inj: ∀k l,H k≠none->H l≠none->(β k).b=(β l).b->k=l
 clr: ∀k,H k≠none-> ¬V (β k).b
 box: ∀k U cs,H k=some (U,cs)-> ∃vs:Array Value,w.heap[(β k).b]? =some (.cells vs U (0,0))/\vs.size=(β k).z/\cs.length<=vs.size/\RdAs A (Zs V H β) w β (vs.toList.take cs.length) cs
def Ad (A:Nat->Prop) (N N':Nat):Nat->Prop:=fun k=>A k\/(N<=k/\k<N')
structure Hst (N N':Nat) (A:Nat->Prop) (H:HF) (β:Nat->Pl) (w:World) (H':HF) (β':Nat->Pl) (w':World):Prop where
 os:w'.os=w.os
 tape:w'.tape=w.tape
 output:w'.output=w.output
 size:w.heap.size<=w'.heap.size
 blk: ∀b,b<w.heap.size->(∀k,H k≠none->(β k).b≠b)->w'.heap[b]? =w.heap[b]?
 same: ∀k,A k->β' k=β k
 own: ∀k,H' k≠none->w.heap.size<=(β' k).b\/ ∃l,H l≠none/\(β l).b=(β' k).b
 nam: ∀k,H' k≠none->H k≠none\/(N<=k/\k<N')
section
variable {V A A':Nat->Prop}{H H' H2:HF}{β β' β2:Nat->Pl}{w w' w2:World}{N N' N2:Nat}
theorem Hst.refl:Hst N N' A H β w H β w:=
 ⟨rfl,rfl,rfl,bk _,fun _ _ _=>rfl,fun _ _=>rfl,fun k I=>.inr ⟨k,I,rfl⟩,fun _ h=>.inl h⟩
theorem Hst.wide (h:Hst N N' A H β w H' β' w') (h1:M<=N) (I:N'<=M'):Hst M M' A H β w H' β' w':=
 ⟨h.os,h.tape,h.output,h.size,h.blk,h.same,h.own,fun k J=>(h.nam k J).imp id fun g=>⟨Nat.le_trans h1 g.1,kW g.2 I⟩⟩
theorem Hst.keep (_hm:Mem V A H β w) (h:Hst N N' A H β w H' β' w'):Keep (Zs V H β) (Zs V H' β') w w':=by
 refine⟨h.size,fun b R I=>h.blk b R (fun k J e=>I (.inr ⟨k,J,e⟩)),fun b R I=>?_⟩;rcases I with I|⟨k,J,e⟩;·exact .inl I
 .rcases h.own k J with g|⟨l,hl,g⟩;·omega
  .exact .inr ⟨l,hl,g.trans e⟩
theorem Hst.trans (h:Hst M M' A H β w H' β' w') (W: ∀k,A k->A' k) (I:Hst M M' A' H' β' w' H2 β2 w2):Hst M M' A H β w H2 β2 w2:=by
 refine⟨I.os.trans h.os,I.tape.trans h.tape,I.output.trans h.output,gG h.size I.size,fun b R hz=>?_,fun k J=>(I.same k (W k J)).trans (h.same k J),fun k J=>?_,fun k J=>?_⟩
 .rw[I.blk b (kW R h.size) (fun k J e=>?_),h.blk b R hz];rcases h.own k J with g|⟨l,hl,g⟩;·omega
  grind
 .rcases I.own k J with g|⟨l,hl,g⟩;·exact .inl (gG h.size g)
  .rcases h.own l hl with q|⟨m,hm,q⟩;·grind
   grind
 .rcases I.nam k J with g|g;·exact h.nam k g
  grind
theorem Mem.sub (hm:Mem V A H β w) (hs: ∀k c,H2 k=some c->H k=some c):Mem V A H2 β w:=by
 have J: ∀k,H2 k≠none->H k≠none:=fun k I=>by
  cases e:H2 k with
  |none=>exact absurd e I
  |some c=>rw[hs k c e];simp
 refine⟨hm.vlt,fun k I=>hm.dom k (J k I),hm.lt,fun k l I hl=>hm.inj k l (J k I) (J l hl),fun k I=>hm.clr k (J k I),fun k U cs I=>?_⟩;obtain⟨vs,h1,R,W,h4⟩:=hm.box k U cs (hs k _ I);exact⟨vs,h1,R,W,h4.mono ⟨Nat.le_refl _,fun _ _ _=>rfl,fun b _ hz=>hz.imp id fun⟨l,hl,e⟩=>⟨l,J l hl,e⟩⟩ (fun _ h=>h) (fun _ _=>rfl)⟩
def Vx (V:Nat->Prop) (H Hv:HF) (β:Nat->Pl):Nat->Prop:=fun b=>V b\/ ∃k,H k≠none/\Hv k=none/\(β k).b=b
theorem ZL {Hv:HF}(hs: ∀k c,Hv k=some c->H k=some c):Zs (Vx V H Hv β) Hv β=Zs V H β:=by
 funext b;refine propext ⟨?_,?_⟩
 .rintro((h|⟨k,h1,_,J⟩)|⟨k,I,e⟩);·exact .inl h
  .exact .inr ⟨k,h1,J⟩
  .refine .inr ⟨k,?_,e⟩;cases q:Hv k with
   |none=>exact absurd q I
   |some c=>rw[hs k c q];simp
 .rintro(h|⟨k,I,e⟩);·exact .inl (.inl h)
  .by_cases q:Hv k=none;·exact .inl (.inr ⟨k,I,q,e⟩)
   .exact .inr ⟨k,q,e⟩
theorem Mem.see {Hv:HF}(hm:Mem V A H β w) (hs: ∀k c,Hv k=some c->H k=some c):Mem (Vx V H Hv β) A Hv β w:=by
 have J: ∀k,Hv k≠none->H k≠none:=fun k I=>by
  cases e:Hv k with
  |none=>exact absurd e I
  |some c=>rw[hs k c e];simp
 refine⟨fun b R=>?_,fun k I=>hm.dom k (J k I),hm.lt,fun k l I hl=>hm.inj k l (J k I) (J l hl),fun k I W=>?_,fun k U cs I=>?_⟩
 .rcases R with R|⟨k,I,_,e⟩;·exact hm.vlt b R
  .rw[<-e];exact hm.lt k (hm.dom k I)
 .rcases W with W|⟨l,h1,h2,h3⟩;·exact hm.clr k (J k I) W
  .have:=hm.inj l k h1 (J k I) h3;grind
 .rw[ZL hs];exact hm.box k U cs (hs k _ I)
def iK (H Hv Hv':HF):HF:=fun k=>match Hv' k,Hv k with
 |some c,_=>some c
 |none,some _=>none
 |none,none=>H k
theorem zj {Hv Hv':HF}{c}(h:iK H Hv Hv' k=some c):Hv' k=some c\/(Hv' k=none/\Hv k=none/\H k=some c):=by
 unfold iK at h;cases h1:Hv' k with
 |some d=>rw[h1] at h;exact .inl h
 |none=>
  cases I:Hv k with
  |some d=>rw[h1,I] at h;cases h
  |none=>rw[h1,I] at h;exact .inr ⟨rfl,rfl,h⟩
theorem oU {Hv Hv':HF}:iK H Hv Hv' k≠none↔(Hv' k≠none\/(Hv k=none/\H k≠none)):=by unfold iK;grind
theorem frame {Hv Hv':HF}(hm:Mem V A H β w) (hs: ∀k c,Hv k=some c->H k=some c) (_hf: ∀k,A k-> ¬(N<=k/\k<N')) (h1: ∀k,A k->A' k) (W:Mem (Vx V H Hv β) A' Hv' β' w') (I:Hst N N' A Hv β w Hv' β' w'):Mem V A' (iK H Hv Hv') β' w'/\Hst N N' A H β w (iK H Hv Hv') β' w'/\Zs V (iK H Hv Hv') β'=Zs (Vx V H Hv β) Hv' β':=by
 have hn: ∀k,Hv k≠none->H k≠none:=fun k J=>by
  cases e:Hv k with
  |none=>exact absurd e J
  |some c=>rw[hs k c e];simp
 have hZ:Zs V (iK H Hv Hv') β'=Zs (Vx V H Hv β) Hv' β':=by
  funext b;refine propext ⟨?_,?_⟩
  .rintro(h|⟨k,J,e⟩);·exact .inl (.inl h)
   .rcases oU.1 J with g|⟨g1,R⟩;·exact .inr ⟨k,g,e⟩
    .exact .inl (.inr ⟨k,R,g1,by rw[<-I.same k (hm.dom k R)];exact e⟩)
  .rintro((h|⟨k,h1,h2,h3⟩)|⟨k,J,e⟩);·exact .inl h
   .exact .inr ⟨k,oU.2 (.inr ⟨h2,h1⟩),by rw[I.same k (hm.dom k h1)];exact h3⟩
   .exact .inr ⟨k,oU.2 (.inl J),e⟩
 have hH:Hst N N' A H β w (iK H Hv Hv') β' w':=by
  refine⟨I.os,I.tape,I.output,I.size,fun b hb hz=>I.blk b hb (fun k J=>hz k (hn k J)),I.same,fun k J=>?_,fun k J=>?_⟩
  .rcases oU.1 J with g|⟨g1,R⟩
   .rcases I.own k g with q|⟨l,hl,q⟩;·grind
    grind
   .exact .inr ⟨k,R,by rw[I.same k (hm.dom k R)]⟩
  .rcases oU.1 J with g|⟨_,R⟩;·exact(I.nam k g).imp (hn k) id
   grind
 refine⟨⟨fun b hb=>kW (hm.vlt b hb) I.size,fun k J=>?_,W.lt,fun k l J hl e=>?_,fun k J hv=>?_,fun k U cs J=>?_⟩,hH,hZ⟩
 .rcases oU.1 J with g|⟨_,R⟩
  .exact W.dom k g
  .exact h1 _ (hm.dom k R)
 .rcases oU.1 J with g|⟨g1,R⟩<;>rcases oU.1 hl with q|⟨q1,q2⟩
  .exact W.inj k l g q e
  .exact absurd (.inr ⟨l,q2,q1,by rw[<-I.same l (hm.dom l q2)];exact e.symm⟩) (W.clr k g)
  .exact absurd (.inr ⟨k,R,g1,by rw[<-I.same k (hm.dom k R)];exact e⟩) (W.clr l q)
  .rw[I.same k (hm.dom k R),I.same l (hm.dom l q2)] at e
   exact hm.inj k l R q2 e
 .rcases oU.1 J with g|⟨_,R⟩
  .exact W.clr k g (.inl hv)
  .rw[I.same k (hm.dom k R)] at hv
   exact hm.clr k R hv
 .rw[hZ]
  rcases zj J with g|⟨_,R,g3⟩
  .exact W.box k U cs g
  .obtain⟨vs,e1,h2,h3,h4⟩:=hm.box k U cs g3
   have hA:A k:=hm.dom k (by rw[g3];simp)
   have a3:=I.same k hA
   refine⟨vs,?_,by rw[a3];exact h2,h3,?_⟩
   .rw[a3,I.blk _ (hm.lt k hA) (fun l hl e=>?_)]
    .grind
    .have:=hm.inj l k (hn l hl) (by rw[g3];simp) e
     grind
   .have a4:=hH.keep hm
    rw[hZ] at a4
    exact h4.mono a4 h1 I.same
end
structure StX (V A:Nat->Prop) (n:Nat) (T:TX) (H:HF) (β:Nat->Pl) (a:Act) (w:World):Prop where
 mem:Mem V A H β w
 dfr:a.defers=[]
 siz:a.tmps.size=n
 tmp: ∀t x,T t=some x-> ∃v,a.tmps[t]? =some v/\RdX2 A (Zs V H β) w β v x
def zq (A Z:Nat->Prop) (w:World) (β:Nat->Pl) (L:Nat->Prop) (T:TX) (a:Act):Prop:= ∀t x,L t->T t=some x-> ∃v,a.tmps[t]? =some v/\RdX2 A Z w β v x
structure Evt where
 x:XV
 Hv:HF
 Hv':HF
 N:Nat
 N':Nat
def FM (d:Option Nat) (x:XV) (T:TX):TX:=fun t=>if d=some t then some x else T t
section
variable {P:Program}{eO:Array Oper}{o:Oper}{T Tl:TX}{e:Evt}{V A:Nat->Prop}{n:Nat}{H:HF}{β:Nat->Pl}{a:Act}{w:World}
def QQ (P:Program) (eO:Array Oper) (o:Oper) (T:TX) (e:Evt):Prop:= ∀V A β a w,(∀k,A k-> ¬(e.N<=k/\k<e.N'))->Mem V A e.Hv β w->zq A (Zs V e.Hv β) w β (ek eO o) T a-> xc o eO a=true/\Gives P o a w fun v w'=> ∃A' β',(∀k,A k->A' k)/\(∀k,A' k->Ad A e.N e.N' k)/\Mem V A' e.Hv' β' w'/\Hst e.N e.N' A e.Hv β w e.Hv' β' w'/\RdX2 A' (Zs V e.Hv' β') w' β' v e.x
def J7 (eO:Array Oper) (o:Oper) (T:TX) (e:Evt):Prop:=e.x=.u/\e.Hv'=e.Hv/\ ∀V A β a w,zq A (Zs V e.Hv β) w β (ek eO o) T a->xc o eO a=false
theorem StX.step (I:StX V A n T H β a w) (W:QQ P eO o Tl e\/J7 eO o Tl e) (hT: ∀t x,ek eO o t->Tl t=some x->T t=some x) (hv: ∀k c,e.Hv k=some c->H k=some c) (hf: ∀k,A k-> ¬(e.N<=k/\k<e.N')) (hd: ∀t,o.dst=some t->t<n) {Q:Exit->Act->World->Prop}{K:Act->World->Prop} (hK: ∀A' β' a' w',(∀k,A k->A' k)->(∀k,A' k->Ad A e.N e.N' k)->Hst e.N e.N' A H β w (iK H e.Hv e.Hv') β' w'->StX V A' n (FM o.dst e.x T) (iK H e.Hv e.Hv') β' a' w'->K a' w'):if Region.wanted o (yielded eO a.tmps) then o.wp P a w K Q\/(o.asks P a w/\LetsOut Q) else K (a.put o.dst undef) w:=by
 have a5:zq A (Zs (Vx V H e.Hv β) e.Hv β) w β (ek eO o) Tl a:=by rw[ZL hv];exact fun t x hl hx=>I.tmp t x (hT t x hl hx)
 rcases W with W|⟨hx,hH,W⟩
 .obtain⟨hw,hg⟩:=W (Vx V H e.Hv β) A β a w hf (I.mem.see hv) a5
  rw[if_pos hw]
  refine .inl (hg.wp fun v w' ⟨A',β',a4,a9,hm,hh,hx⟩=>?_)
  obtain⟨a6,a3,hZ⟩:=frame I.mem hv hf a4 hm hh
  refine hK A' β' _ _ a4 a9 a3 ⟨a6,by rw[pa];exact I.dfr,by rw[va];exact I.siz,fun t x R=>?_⟩
  unfold FM at R
  split at R
  .rename_i J
   injection R with R
   subst R
   rw[J]
   exact⟨v,vj (by rw[I.siz];exact hd t J),by rw[hZ];exact hx⟩
  .rename_i J
   obtain⟨u,e1,hr⟩:=I.tmp t x R
   exact⟨u,(ss J).trans e1,hr.mono (a3.keep I.mem) a4 a3.same⟩
 .have hw:=W _ A β a w a5
  unfold xc at hw
  rw[if_neg (by rw[hw];simp)]
  have hp:iK H e.Hv e.Hv'=H:=by
   rw[hH];funext k;unfold iK;cases h:e.Hv k with
   |none=>rfl
   |some c=>exact(hv k c h).symm
  refine hK A β _ _ (fun _ h=>h) (fun _ h=>.inl h) (by rw[hp];exact Hst.refl) ?_
  rw[hp]
  refine⟨I.mem,by rw[pa];exact I.dfr,by rw[va];exact I.siz,fun t x R=>?_⟩
  unfold FM at R
  split at R
  .rename_i J
   injection R with R
   subst R
   rw[J,hx]
   exact⟨undef,vj (by rw[I.siz];exact hd t J),rfl⟩
  .rename_i J
   obtain⟨u,e1,hr⟩:=I.tmp t x R
   exact⟨u,(ss J).trans e1,hr⟩
inductive Prec (eO:Array Oper):Nat->Nat->Prop
 |one {i j:Nat}{o:Oper}:eO[i]? =some o->j∈bP o->Prec eO j i
 |tr {i j k:Nat}:Prec eO j k->Prec eO k i->Prec eO j i
theorem Prec.down {dp:Array Bool}(J: ∀i o j,dp.getD i false=true->eO[i]? =some o->j∈bP o->dp.getD j false=true) (h:Prec eO j i):dp.getD i false=true->dp.getD j false=true:=by
 induction h with
 |one ho W=>exact fun hi=>J _ _ _ hi ho W
 |tr _ _ R I=>exact fun hi=>R (I hi)
theorem Prec.last (h:Prec eO j i): ∃k o,eO[i]? =some o/\k∈bP o/\(j=k\/Prec eO j k):=by
 induction h with
 |one I R=>exact⟨_,_,I,R,.inl rfl⟩
 |tr h1 _ _ J=>
  obtain⟨k,o,I,W,h⟩:=J;rcases h with rfl|h;·grind
  .exact⟨k,o,I,W,.inr (h1.tr h)⟩
def Sy (d:Option Nat) (e:Evt):Nat->Option (Option XV):=fun t=>if d=some t then some (some e.x) else none
open Classical in
def uH (e:Evt):Nat->Option (Option (TypeId×List AV)):=fun k=>if e.Hv' k=e.Hv k then none else some (e.Hv' k)
def wM (l:List Oper) (es:List Evt):=List.zipWith (fun(o:Oper) e=>Sy o.dst e) l es
def BC (es:List Evt):=es.map uH
theorem agR (h:uH e k≠none):e.Hv' k≠e.Hv k:=by intro q;apply h;unfold uH;rw[if_pos q]
theorem aai (h:e.Hv' k≠e.Hv k):uH e k=some (e.Hv' k):=by unfold uH;rw[if_neg h]
theorem S9 {I:Type}(f:Oper->Evt->I) {l:List Oper}{es:List Evt}{u:I}(h:(List.zipWith f l es)[j]? =some u): ∃o e,l[j]? =some o/\es[j]? =some e/\u=f o e:=by grind
theorem OY {Q:Exit->Act->World->Prop}(f4: ∀(i:Nat) (o:Oper) (j:Nat),eO[i]? =some o->j∈bP o->j<i) (j1: ∀(i:Nat) (o:Oper) (t:Nat),eO[i]? =some o->o.dst=some t->t<n) (pre:Nat->Nat->Prop) (b7: ∀j i,pre j i->Prec eO j i) (c7: ∀(j i:Nat) (oj oi:Oper),j<i-> ¬pre j i->eO[j]? =some oj->eO[i]? =some oi->(∀d,oj.dst=some d->d∉oi.looksAt eO/\oi.dst≠some d)/\ ∀d,oi.dst=some d->d∉oj.looksAt eO) {es:List Evt}(h7:es.length=eO.size) {T0:TX}{H0:HF}{N0 Nn:Nat}{A0:Nat->Prop}{β0:Nat->Pl}{w0:World} (g7: ∀(i:Nat) (o:Oper) (e:Evt),eO[i]? =some o->es[i]? =some e-> ∃Tl,(QQ P eO o Tl e\/J7 eO o Tl e)/\(∀t x,ek eO o t->Tl t=some x->iq (fun j=>decide (j<i)) 0 (wM eO.toList es) T0 t=some x)/\ ∀k c,e.Hv k=some c->iq (fun j=>decide (j<i)) 0 (BC es) H0 k=some c) (hN: ∀(i:Nat) (e:Evt),es[i]? =some e->N0<=e.N/\e.N'<=Nn) (h5: ∀(j i:Nat) (I ei:Evt),j<i->es[j]? =some I->es[i]? =some ei->I.N'<=ei.N) (a5: ∀(j i:Nat) (I ei:Evt),j<i-> ¬pre j i->es[j]? =some I->es[i]? =some ei-> ∀k,(I.Hv' k≠I.Hv k->ei.Hv k=none/\ei.Hv' k=none)/\(ei.Hv' k≠ei.Hv k->I.Hv k=none/\I.Hv' k=none)) (_k4:N0<=Nn) (i1: ∀k,A0 k-> ¬(N0<=k/\k<Nn)) (hQ: ∀A β a w,(∀k,A0 k->A k)->(∀k,A k->Ad A0 N0 Nn k)->Hst N0 Nn A0 H0 β0 w0 (iq (fun _=>true) 0 (BC es) H0) β w->StX V A n (iq (fun _=>true) 0 (wM eO.toList es) T0) (iq (fun _=>true) 0 (BC es) H0) β a w->Q .normal a w):∀(et:Nat) (dp:Array Bool) (A:Nat->Prop) (β:Nat->Pl) (a:Act) (w:World),dp.size=eO.size->Lq dp<=et-> (∀i o j,dp.getD i false=true->eO[i]? =some o->j∈bP o->dp.getD j false=true)-> (∀k,A0 k->A k)->(∀k,A k->A0 k\/ ∃(j:Nat) (e:Evt),dp.getD j false=true/\es[j]? =some e/\e.N<=k/\k<e.N')-> Hst N0 Nn A0 H0 β0 w0 (iq (fun j=>dp.getD j false) 0 (BC es) H0) β w-> StX V A n (iq (fun j=>dp.getD j false) 0 (wM eO.toList es) T0) (iq (fun j=>dp.getD j false) 0 (BC es) H0) β a w->wpAny P .any eO Q et dp a w:=by
 have d3: ∀ {t j:Nat}{u},(wM eO.toList es)[j]? =some u->u t≠none-> ∃oj I,eO[j]? =some oj/\es[j]? =some I/\oj.dst=some t/\u=Sy oj.dst I:=by
  intro t j u J hu;obtain⟨oj,I,h1,h2,rfl⟩:=S9 _ J;refine⟨oj,I,by rw[mW] at h1;exact h1,h2,?_,rfl⟩;unfold Sy at hu;split at hu;·assumption
  .exact absurd rfl hu
 have d7: ∀ {k j:Nat}{u},(BC es)[j]? =some u->u k≠none-> ∃I,es[j]? =some I/\I.Hv' k≠I.Hv k/\u=uH I:=by
  intro k j u J hu;unfold BC at J;rw[pU] at J;cases h:es[j]? with
  |none=>rw[h] at J;cases J
  |some I=>rw[h] at J;injection J with J;subst J;exact⟨I,rfl,agR hu,rfl⟩
 have k3: ∀ {j:Nat}{e:Evt},es[j]? =some e-> ∃o,eO[j]? =some o:=by
  intro j e h;have:j<eO.size:=by rw[<-h7];exact(fM.1 h).1
  exact⟨eO[j],uw this⟩
 have e3: ∀(dp:Array Bool) (A:Nat->Prop) (β:Nat->Pl) (a:Act) (w:World),(∀i,i<eO.size->dp.getD i false=true)->(∀k,A0 k->A k)->
  (∀k,A k->A0 k\/ ∃(j:Nat) (e:Evt),dp.getD j false=true/\es[j]? =some e/\e.N<=k/\k<e.N')->
  Hst N0 Nn A0 H0 β0 w0 (iq (fun j=>dp.getD j false) 0 (BC es) H0) β w->
  StX V A n (iq (fun j=>dp.getD j false) 0 (wM eO.toList es) T0) (iq (fun j=>dp.getD j false) 0 (BC es) H0) β a w->Q .normal a w:=by
  intro dp A β a w hl a9 b6 hh b4
  have e1:iq (fun j=>dp.getD j false) 0 (wM eO.toList es) T0=iq (fun _=>true) 0 (wM eO.toList es) T0:=by funext t;refine fm _ _ _ _ rfl fun j u J hu=>?_;obtain⟨oj,I,h1,_⟩:=d3 J hu;rw[dN];exact hl j (lH.1 h1).1
  have e2:iq (fun j=>dp.getD j false) 0 (BC es) H0=iq (fun _=>true) 0 (BC es) H0:=by funext t;refine fm _ _ _ _ rfl fun j u J hu=>?_;obtain⟨I,h1,_⟩:=d7 J hu;rw[dN];exact hl j (by rw[<-h7];exact(fM.1 h1).1)
  rw[e2] at hh
  rw[e1,e2] at b4
  refine hQ A β a w a9 (fun k W=>?_) hh b4
  rcases b6 k W with h|⟨j,e,_,h2,_,h4⟩
  .exact .inl h
  .have:=hN j e h2;exact .inr ⟨by omega,by omega⟩
 intro et
 induction et with
 |zero=>
  intro dp A β a w e6 hu d6 a9 b6 hh b4
  have hl: ∀i,i<eO.size->dp.getD i false=true:=fun i hi=>by
   cases h:dp.getD i false with
   |true=>rfl
   |false=>have:=xw (dp:=dp) (i:=i) (by omega) (by rw[lk (by omega) true false];exact h);omega
  refine wpAny_done ?_ (e3 dp A β a w hl a9 b6 hh b4) 0
  refine List.eq_nil_iff_forall_not_mem.2 fun j J=>?_
  obtain⟨h0,o,ho,_⟩:=mem_ready.1 J
  have j2:=(lH.1 ho).1
  rw[lk (by omega) true false,hl j j2] at h0
  cases h0
 |succ et ih=>
  intro dp A β a w e6 hu d6 a9 b6 hh b4
  refine⟨fun hr=>?_,fun i hi=>?_⟩
  .refine e3 dp A β a w ?_ a9 b6 hh b4
   intro i
   induction i using Nat.strongRecOn with
   |_ i i2=>
    intro hi
    cases h:dp.getD i false with
    |true=>rfl
    |false=>
     exfalso
     have:i∈Region.ready .any eO dp:=by refine mem_ready.2 ⟨by rw[lk (by omega) true false];exact h,eO[i],uw hi,fun e he hb=>?_⟩;have hlt:=f4 i eO[i] e.on (uw hi) (uN he hb);exact i2 e.on hlt (by omega)
     rw[hr] at this;cases this
  .obtain⟨h8,o,ho,g6⟩:=mem_ready.1 hi
   have i8:i<eO.size:=(lH.1 ho).1
   have c8:dp.getD i false=false:=by rw[lk (by omega) false true];exact h8
   obtain⟨e,he⟩: ∃e,es[i]? =some e:=⟨es[i]'(by omega),gI (by omega)⟩
   have g3: ∀j,Prec eO j i->dp.getD j false=true:=by
    intro j J;obtain⟨k,o',d5,W,h⟩:=J.last;rw[ho] at d5;injection d5 with d5;subst d5;obtain⟨ed,j3,hb,rfl⟩:=jp W;have h1:=g6 ed j3 hb;rcases h with rfl|h;·exact h1
    .exact h.down d6 h1
   have c6: ∀j,Prec eO i j->dp.getD j false=false:=by
    intro j J;cases h:dp.getD j false with
    |false=>rfl
    |true=>have:=J.down d6 h;rw[c8] at this;cases this
   obtain⟨Tl,j4,k1,g8⟩:=g7 i o e ho he
   have b5: ∀(j:Nat),(j<i->pre j i)->(i<j->pre i j)->dp.getD j false=decide (j<i):=by
    intro j h1 h2;rcases Nat.lt_trichotomy j i with h|h|h;·rw[g3 j (b7 j i (h1 h))];simp[h]
    .subst h;rw[c8];simp
    .rw[c6 j (b7 i j (h2 h))];simp;omega
   have d4: ∀k,A k-> ¬(e.N<=k/\k<e.N'):=by
    intro k W ⟨g1,g2⟩;rcases b6 k W with h|⟨j,I,h1,h2,h3,h4⟩;·have:=i1 k h;have:=hN i e he;omega
    .rcases Nat.lt_trichotomy j i with h|h|h;·have:=h5 j i I e h h2 he;omega
     .subst h;rw[c8] at h1;cases h1
     .have:=h5 i j e I h he h2;omega
   have a4: ∀j,(dp.setIfInBounds i true).getD j false=if j=i then true else dp.getD j false:=by
    intro j;by_cases c5:j=i;·subst c5;simp[Array.getD,e6,i8]
    .rw[if_neg c5,getD_set_ne false (fun e=>c5 e.symm)]
   have g4:(BC es)[i]? =some (uH e):=by unfold BC;rw[pU,he];rfl
   have h6:(wM eO.toList es)[i]? =some (Sy o.dst e):=by unfold wM;rw[List.getElem?_zipWith,mW,ho,he]
   unfold wpOp
   rw[ho]
   refine b4.step j4 ?_ ?_ d4 (fun t ht=>j1 i o t ho ht) ?_
   .intro t x e9 hx
    rw[<-k1 t x e9 hx]
    refine fm _ _ _ _ rfl fun j u J hu=>?_
    obtain⟨oj,I,a3,_,c3,_⟩:=d3 J hu
    rw[dN]
    refine b5 j (fun h=>?_) (fun h=>?_)
    .apply kU
     intro hp
     exact((c7 j i oj o h hp a3 ho).1 t c3).1 e9
    .apply kU
     intro hp
     exact(c7 i j o oj h hp ho a3).2 t c3 e9
   .intro k c W
    rw[<-g8 k c W]
    refine fm _ _ _ _ rfl fun j u J hu=>?_
    obtain⟨I,a6,R,_⟩:=d7 J hu
    rw[dN]
    refine b5 j (fun h=>?_) (fun h=>?_)
    .apply kU
     intro hp
     rw[((a5 j i I e h hp a6 he k).1 R).1] at W;cases W
    .apply kU
     intro hp
     rw[((a5 i j e I h hp he a6 k).2 R).1] at W;cases W
   .intro A' β' a' w' h9 f3 g0 e4
    have eT:FM o.dst e.x (iq (fun j=>dp.getD j false) 0 (wM eO.toList es) T0)=iq (fun j=>(dp.setIfInBounds i true).getD j false) 0 (wM eO.toList es) T0:=by
     funext t;unfold FM;split
     .rename_i d2;symm;refine xJ (u:=Sy o.dst e) _ _ _ i h6 (by unfold Sy;rw[if_pos d2]) (by rw[dN,a4,if_pos rfl]) ?_;intro j' u' f2 hlt b3;apply kU;intro e5;obtain⟨oj,I,a3,_,c3,_⟩:=d3 f2 e5;rw[dN,a4,if_neg (by omega)] at b3;by_cases hp:pre i j';·rw[c6 j' (b7 i j' hp)] at b3;cases b3
      .exact((c7 i j' o oj hlt hp ho a3).1 t d2).2 c3
     .rename_i d2;symm;refine fm _ _ _ _ rfl fun j u J hu=>?_;obtain⟨oj,I,a3,_,c3,_⟩:=d3 J hu;rw[dN,a4,if_neg];intro q;subst q;rw[ho] at a3;injection a3 with a3;subst a3
      exact d2 c3
    have g5: ∀k c,e.Hv k=some c->iq (fun j=>dp.getD j false) 0 (BC es) H0 k=some c:=by
     intro k c W;rw[<-g8 k c W];refine fm _ _ _ _ rfl fun j u J hu=>?_;obtain⟨I,a6,R,_⟩:=d7 J hu;rw[dN];refine b5 j (fun h=>?_) (fun h=>?_)
     .apply kU;intro hp;rw[((a5 j i I e h hp a6 he k).1 R).1] at W;cases W
     .apply kU;intro hp;rw[((a5 i j e I h hp he a6 k).2 R).1] at W;cases W
    have eH:iK (iq (fun j=>dp.getD j false) 0 (BC es) H0) e.Hv e.Hv'=iq (fun j=>(dp.setIfInBounds i true).getD j false) 0 (BC es) H0:=by
     funext k;by_cases R:e.Hv' k=e.Hv k
     .have i6:uH e k=none:=by unfold uH;rw[if_pos R]
      have h1:iq (fun j=>(dp.setIfInBounds i true).getD j false) 0 (BC es) H0 k=iq (fun j=>dp.getD j false) 0 (BC es) H0 k:=by
       refine fm _ _ _ _ rfl fun j u J hu=>?_;rw[dN,a4,if_neg];intro q;subst q;rw[g4] at J;injection J with J;subst J
       exact hu i6
      rw[h1];unfold iK;rw[R];cases h2:e.Hv k with
      |none=>rfl
      |some c=>exact(g5 k c h2).symm
     .have h1:iq (fun j=>(dp.setIfInBounds i true).getD j false) 0 (BC es) H0 k=e.Hv' k:=by
       refine xJ (u:=uH e) _ _ _ i g4 (aai R) (by rw[dN,a4,if_pos rfl]) ?_;intro j' u' f2 hlt b3;apply kU;intro e5;obtain⟨I,a6,k2,_⟩:=d7 f2 e5;rw[dN,a4,if_neg (by omega)] at b3;by_cases hp:pre i j';·rw[c6 j' (b7 i j' hp)] at b3;cases b3
       .obtain⟨q1,q2⟩:=(a5 i j' e I hlt hp he a6 k).1 R;exact k2 (by rw[q1,q2])
      rw[h1]
      unfold iK
      cases h2:e.Hv' k with
      |some c=>rfl
      |none=>
       cases h3:e.Hv k with
       |some c=>rfl
       |none=>exact absurd (h2.trans h3.symm) R
    rw[eT,eH] at e4
    rw[eH] at g0
    refine ih (dp.setIfInBounds i true) A' β' a' w' (by simpa using e6) (by have:=BR (dp:=dp) (i:=i) (by omega) h8;omega) ?_ (fun k W=>h9 k (a9 k W)) ?_ (hh.trans a9 (g0.wide (hN i e he).1 (hN i e he).2)) e4
    .intro i' o' j' h1 h2 h3
     rw[a4] at h1⊢
     by_cases c5:j'=i
     .rw[if_pos c5]
     .rw[if_neg c5]
      by_cases i0:i'=i
      .subst i0
       rw[ho] at h2
       injection h2 with h2
       subst h2
       obtain⟨e',i4,j0,rfl⟩:=jp h3
       exact g6 e' i4 j0
      .rw[if_neg i0] at h1
       exact d6 i' o' j' h1 h2 h3
    .intro k W
     rcases f3 k W with h|h
     .rcases b6 k h with q|⟨j,I,q1,q2,q3⟩
      .exact .inl q
      .refine .inr ⟨j,I,?_,q2,q3⟩
       rw[a4];split
       .rfl
       .exact q1
     .exact .inr ⟨i,e,by rw[a4,if_pos rfl],he,h⟩
end
section
variable {α β:Type}
def oO (x:Option α) (f:α->Option β):Option β:=@Option.rec α (fun _=>Option β) none f x
def bT (b:Bool) (x:Option β):Option β:=@Bool.rec (fun _=>Option β) none x b
def bI (b:Bool) (x y:β):β:=@Bool.rec (fun _=>β) y x b
end
def bA (a b:Bool):Bool:=@Bool.rec (fun _=>Bool) false b a
inductive Tr (α:Type) where
 |e
 |n (l:Tr α) (v:Option α) (r:Tr α)
section
variable {α:Type}
def Tr.get (t:Tr α):Nat->Option α:=
 @Tr.rec α (fun _=>Nat->Option α) (fun _=>none) (fun _ v _ I gr k=>@Bool.rec (fun _=>Option α) (@Bool.rec (fun _=>Option α) (gr (Nat.div k 2)) (I (Nat.div k 2)) (Nat.beq (Nat.mod k 2) 1)) v (Nat.beq k 0)) t
def Tr.one (v:α) (f:Nat):Nat->Tr α:=
 @Nat.rec (fun _=>Nat->Tr α) (fun _=>.e) (fun _ I k=>@Bool.rec (fun _=>Tr α) (@Bool.rec (fun _=>Tr α) (.n .e none (I (Nat.div k 2))) (.n (I (Nat.div k 2)) none .e) (Nat.beq (Nat.mod k 2) 1)) (.n .e (some v) .e) (Nat.beq k 0)) f
def Tr.set (t:Tr α) (v:α):Nat->Tr α:=
 @Tr.rec α (fun _=>Nat->Tr α) (fun k=>Tr.one v 40 k) (fun l o r sl I k=>@Bool.rec (fun _=>Tr α) (@Bool.rec (fun _=>Tr α) (.n l o (I (Nat.div k 2))) (.n (sl (Nat.div k 2)) o r) (Nat.beq (Nat.mod k 2) 1)) (.n l (some v) r) (Nat.beq k 0)) t
def Tr.del (t:Tr α):Nat->Tr α:=
 @Tr.rec α (fun _=>Nat->Tr α) (fun _=>.e) (fun l o r sl I k=>@Bool.rec (fun _=>Tr α) (@Bool.rec (fun _=>Tr α) (.n l o (I (Nat.div k 2))) (.n (sl (Nat.div k 2)) o r) (Nat.beq (Nat.mod k 2) 1)) (.n l none r) (Nat.beq k 0)) t
end
def puA (x:AV):Bool:=@AV.rec (fun _=>Bool) (fun _=>true) (fun _ _=>true) (fun _=>true) (fun _ _=>false) (fun _ _ _ _ _ _=>false) true true true (fun _=>true) (fun _ _ _ _=>false) x
def puR (r:Rp):Bool:=@Rp.rec (fun _=>Bool) true puA (fun _ I _ _ _ _=>I) r
def QS (ls:Nat) (l r:Rp):Rp:=.n ls (bA (puR l) (puR r)) l r
def iX (ls:Nat) (l r:Rp):Rp:=@Rp.rec (fun _=>Rp) r (fun _=>@Rp.rec (fun _=>Rp) l (fun _=>QS ls l r) (fun _ _ _ _ _ _=>QS ls l r) r) (fun _ _ _ _ _ _=>@Rp.rec (fun _=>Rp) l (fun _=>QS ls l r) (fun _ _ _ _ _ _=>QS ls l r) r) l
def iY (r:Rp):Nat->Nat->Nat->Rp:=
 @Rp.rec (fun _=>Nat->Nat->Nat->Rp) (fun _ _ _=>.e) (fun x _ _ n=>bI (Nat.beq n 0) .e (.c x))
  (fun ls R l r sl J I off n=>bI (Nat.beq n I) (.n ls R l r) (bI (Nat.ble (Nat.add off n) ls) (sl ls off n) (bI (Nat.ble ls off) (J (Nat.sub I ls) (Nat.sub off ls) n)
   (iX (Nat.sub ls off) (sl ls off (Nat.sub ls off)) (J (Nat.sub I ls) 0 (Nat.sub (Nat.add off n) ls)))))) r
def mQ (d r:Rp):Nat->Nat->Nat->Rp:=
 @Rp.rec (fun _=>Nat->Nat->Nat->Rp) (fun _ _ _=>.e) (fun x _ _ n=>bI (Nat.beq n 0) (.c x) d)
  (fun ls _ l r ul J I off n=>bI (Nat.beq n I) d (bI (Nat.ble (Nat.add off n) ls) (QS ls (ul ls off n) r) (bI (Nat.ble ls off) (QS ls l (J (Nat.sub I ls) (Nat.sub off ls) n))
   (iX off (iY l ls 0 off) (iX n d (iY r (Nat.sub I ls) (Nat.sub (Nat.add off n) ls) (Nat.sub I (Nat.add off n)))))))) r
def rg (r:Rp):Nat->Option AV:=
 @Rp.rec (fun _=>Nat->Option AV) (fun _=>none) (fun x off=>@Bool.rec (fun _=>Option AV) none (some x) (Nat.beq off 0)) (fun ls _ _ _ I gr off=>@Bool.rec (fun _=>Option AV) (gr (Nat.sub off ls)) (I off) (Nat.blt off ls)) r
def vV (l:List AV):Rp:=@List.rec AV (fun _=>Rp) .e (fun x _ I=>iX 1 (.c x) I) l
def rn (m:Nat) (z:Rp) (n:Nat):Rp:=@Nat.rec (fun _=>Rp) .e (fun _ I=>iX m z I) n
structure Bx where
 U:TypeId
 n:Nat
 r:Rp
inductive Lg where
 |p
 |r (k:Nat)
 |w (k:Nat)
 |nw (k:Nat)
 |c (H H':Tr Bx)
inductive Rs where
 |mk (x:XV) (N:Nat) (H:Tr Bx) (g:Lg)
inductive Ro where
 |no
 |n (T:Tr XV) (N:Nat) (H:Tr Bx)
 |x (id:Nat) (T:Tr XV) (N:Nat) (H:Tr Bx)
 |r (T:Tr XV) (N:Nat) (H:Tr Bx)
inductive Cr where
 |no
 |p (x:XV)
 |h (x:XV) (N:Nat) (H:Tr Bx)
abbrev fV:=FuncId->List XV->Nat->Tr Bx->Cr
abbrev LX:=List (Nat×XV)
abbrev oZ:=fV->LX->Tr XV->Nat->Tr Bx->Option Rs
abbrev te:=fV->Nat->Tr XV->Nat->Tr Bx->Ro
inductive XO where
 |l (n:Nat)
 |t (n:Nat)
 |k (x:XV)
def Ff (t:Nat) (l:LX):Option XV:=@List.rec (Nat×XV) (fun _=>Option XV) none (fun p _ I=>@Bool.rec (fun _=>Option XV) I (some p.2) (Nat.beq p.1 t)) l
def XO.get (x:XO) (L:LX) (T:Tr XV):Option XV:=@XO.rec (fun _=>Option XV) (fun n=>Ff n L) (fun n=>T.get n) (fun v=>some v) x
def II (xs:List XO) (L:LX) (T:Tr XV):Option (List XV):=@List.rec XO (fun _=>Option (List XV)) (some []) (fun x _ I=>oO (x.get L T) fun v=>oO I fun vs=>some (v::vs)) xs
section
variable {β:Type}
def xC (x:XV) (f:AV->Option β):Option β:=@XV.rec (fun _=>Option β) f (fun _ _=>none) (fun _=>none) none x
def xA (x:XV) (f:Nat->Rp->Option β):Option β:=@XV.rec (fun _=>Option β) (fun _=>none) f (fun _=>none) none x
def xT (x:XV) (f:List XD->Option β):Option β:=@XV.rec (fun _=>Option β) (fun _=>none) (fun _ _=>none) f none x
def aB (x:AV) (f:Bool->Option β):Option β:=@AV.rec (fun _=>Option β) f (fun _ _=>none) (fun _=>none) (fun _ _=>none) (fun _ _ _ _ _ _=>none) none none none (fun _=>none) (fun _ _ _ _=>none) x
def aI (x:AV) (f:IntKind->Int->Option β):Option β:=@AV.rec (fun _=>Option β) (fun _=>none) f (fun _=>none) (fun _ _=>none) (fun _ _ _ _ _ _=>none) none none none (fun _=>none) (fun _ _ _ _=>none) x
def aP (x:AV) (f:Nat->Nat->Option β):Option β:=@AV.rec (fun _=>Option β) (fun _=>none) (fun _ _=>none) (fun _=>none) f (fun _ _ _ _ _ _=>none) none none none (fun _=>none) (fun _ _ _ _=>none) x
def aS (x:AV) (f:Nat->Nat->Nat->Nat->Bool->Nat->Option β) (z ev:Option β):Option β:=@AV.rec (fun _=>Option β) (fun _=>none) (fun _ _=>none) (fun _=>none) (fun _ _=>none) f z ev none (fun _=>none) (fun _ _ _ _=>none) x
def xnI (i:Int) (f:Nat->Option β):Option β:=@Int.rec (fun _=>Option β) f (fun _=>none) i
end
def xB {β:Type}(x:XV) (f:Bool->Option β):Option β:=xC x fun a=>aB a f
def xI {β:Type}(x:XV) (f:IntKind->Int->Option β):Option β:=xC x fun a=>aI a f
def xP {β:Type}(x:XV) (f:Nat->Nat->Option β):Option β:=xC x fun a=>aP a f
def xN {β:Type}(x:XV) (f:Nat->Option β):Option β:=xI x fun _ i=>xnI i f
def xD {β:Type}(x:XV) (f:Nat->Rp->Option β):Option β:=@XV.rec (fun _=>Option β) (fun a=>f 1 (.c a)) f (fun _=>none) none x
def kN (k:IntKind):Nat:=@IntKind.rec (fun _=>Nat) 0 1 2 3 4 5 6 7 k
def xv (x y:Int):Bool:=@Int.rec (fun _=>Bool) (fun _=>false) (fun _=>true) (Int.sub x y)
def LH (x y:Int):Bool:=@Int.rec (fun _=>Bool) (fun n=>Nat.beq n 0) (fun _=>false) (Int.sub x y)
def AJ (k:IntKind) (n:Int):Int:=bI (Nat.beq (kN k) 3) (bI (Nat.blt n.natAbs 9223372036854775808) n (k.wrap n)) (k.wrap n)
def pR (x:XV) (N:Nat) (H:Tr Bx):Option Rs:=some (.mk x N H .p)
def Ww (x:XO):oZ:=fun _ L T N H=>oO (x.get L T) fun v=>pR v N H
def SW (c a b:XO):oZ:=fun _ L T N H=>oO (c.get L T) fun c=>xB c fun t=>oO (bI t (a.get L T) (b.get L T)) fun v=>pR v N H
def nwB (x:XV) (U n:Nat) (r:Rp) (N:Nat) (H:Tr Bx):Option Rs:=some (.mk x (Nat.succ N) (H.set ⟨U,n,r⟩ N) (.nw N))
def MJ (U n:Nat) (z:Rp):oZ:=fun _ _ _ N H=>nwB (.c (.p N 0)) U n z N H
def Zp (U:Nat) (x:XO):oZ:=fun _ L T N H=>oO (x.get L T) fun v=>xD v fun n r=>nwB (.c (.p N 0)) U n r N H
def Ol (L:LX) (T:Tr XV) (I:Nat) (ps:List (Nat×Nat×XO)):Rp->Option Rp:=
 @List.rec (Nat×Nat×XO) (fun _=>Rp->Option Rp) (fun r=>some r) (fun p _ J r=>oO (p.2.2.get L T) fun v=>xD v fun n d=>bT (Nat.beq n p.2.1) (bT (Nat.ble (Nat.add p.1 n) I) (J (mQ d r I p.1 n)))) ps
def MF (I:Nat) (z:Rp) (ps:List (Nat×Nat×XO)):oZ:=fun _ L T N H=>oO (Ol L T I ps z) fun r=>pR (.a I r) N H
def aab (e n m:Nat) (z:Rp) (ps:List (Nat×Nat×XO)):oZ:=fun _ L T N H=>oO (Ol L T (Nat.mul n m) ps z) fun r=>nwB (.c (.s N 0 n n true m)) e (Nat.mul n m) r N H
def rdB (H:Tr Bx) (x:XV) (f:Nat->Nat->Bx->Option Rs):Option Rs:=xP x fun k off=>oO (H.get k) fun b=>f k off b
def ZD (n:Nat) (x:XO):oZ:=fun _ L T N H=>oO (x.get L T) fun v=>rdB H v fun k off b=>bT (Nat.ble (Nat.add off n) b.n) (some (.mk (.a n (iY b.r b.n off n)) N H (.r k)))
def aav (x:XO):oZ:=fun _ L T N H=>oO (x.get L T) fun v=>rdB H v fun k off b=>oO (rg b.r off) fun a=>some (.mk (.c a) N H (.r k))
def afu (n:Nat) (a x:XO):oZ:=fun _ L T N H=>oO (a.get L T) fun v=>oO (x.get L T) fun y=>rdB H v fun k off b=>xD y fun m d=>bT (Nat.beq m n) (bT (Nat.ble (Nat.add off n) b.n) (some (.mk .u N (H.set ⟨b.U,b.n,mQ d b.r b.n off n⟩ k) (.w k))))
def Ub (x:XO):oZ:=fun _ L T N H=>oO (x.get L T) fun v=>xP v fun k off=>pR (.c (.p k off)) N H
def ZN (f:IntKind->Int->Int->Option AV) (x y:XO):oZ:=fun _ L T N H=>oO (x.get L T) fun v=>oO (y.get L T) fun y2=>xI v fun k a=>xI y2 fun I b=>bT (Nat.beq (kN k) (kN I)) (oO (f k a b) fun r=>pR (.c r) N H)
def aaH (f:IntKind->Int->Int->Option AV) (x y:XO):oZ:=fun _ L T N H=>oO (x.get L T) fun v=>oO (y.get L T) fun y2=>xI v fun k a=>xI y2 fun _ b=>oO (f k a b) fun r=>pR (.c r) N H
def Nj (ne:Bool) (x y:XO):oZ:=fun _ L T N H=>oO (x.get L T) fun v=>oO (y.get L T) fun y2=>xB v fun a=>xB y2 fun b=>pR (.c (.b (bI ne (!(a==b)) (a==b)))) N H
def Oh (ne:Bool) (x:XO):oZ:=fun _ L T N H=>oO (x.get L T) fun v=>xC v fun a=>aS a (fun _ _ _ _ _ _=>pR (.c (.b ne)) N H) (pR (.c (.b (!ne))) N H) none
def SV (s:ByteArray) (i:XO):oZ:=fun _ L T N H=>oO (i.get L T) fun v=>xN v fun j=>oO s.data.toList[j]? fun b=>pR (.c (.i .u8 b.toNat)) N H
def ZU (x:XO):oZ:=fun _ L T N H=>oO (x.get L T) fun v=>xB v fun a=>pR (.c (.b (bI a false true))) N H
def Y7 (x:XO):oZ:=fun _ L T N H=>oO (x.get L T) fun v=>xI v fun k a=>pR (.c (.i k (AJ k (0-a)))) N H
def Qp (k:IntKind) (x:XO):oZ:=fun _ L T N H=>oO (x.get L T) fun v=>xI v fun _ a=>pR (.c (.i k (AJ k a))) N H
def abW (g:FuncId) (vs:List XV):Option AV:=@List.rec XV (fun _=>Option AV) (some (.f0 g)) (fun v _ I=>xC v fun a=>oO I fun y=>some (.fc a y)) vs
def aaw (g:FuncId) (xs:List XO):oZ:=fun _ L T N H=>oO (II xs L T) fun vs=>oO (abW g vs) fun y=>pR (.c y) N H
def aaD (e m I:Nat) (z:Rp) (n c:XO):oZ:=fun _ L T N H=>oO (n.get L T) fun v=>oO (c.get L T) fun y2=>xN v fun a=>xN y2 fun b=>bT (Nat.ble a b) (bT (Nat.ble (Nat.mul b I) 140737488355328) (bT (Nat.ble b 100000) (nwB (.c (.s N 0 a b true m)) e (Nat.mul b m) (rn m z b) N H)))
def AK (L:LX) (T:Tr XV) (d:Nat) (x:Option XO):Option Nat:=@Option.rec XO (fun _=>Option Nat) (some d) (fun x=>oO (x.get L T) fun v=>xN v some) x
def ahT (m k off lo:Nat) (I:Bool) (l h:Nat):Option AV:=bT (Nat.ble l h) (bT (Nat.ble h lo) (bI (Nat.blt l lo) (some (.s k (Nat.add off (Nat.mul l m)) (Nat.sub h l) (Nat.sub lo l) I m)) (bI I (some (.s k off 0 0 true m)) (some .ev))))
def aiO (m k off lo:Nat) (l h M:Nat):Option AV:=bT (Nat.ble l h) (bT (Nat.ble h M) (bT (Nat.ble M lo) (bI (Nat.blt l M) (some (.s k (Nat.add off (Nat.mul l m)) (Nat.sub h l) (Nat.sub M l) true m)) (some (.s k off 0 0 true m)))))
def Z7 (m:Nat) (x:XO) (lo hi:Option XO):oZ:=fun _ L T N H=>oO (x.get L T) fun v=>xC v fun a=>aS a (fun k off n I R J=>oO (AK L T 0 lo) fun l=>oO (AK L T n hi) fun h=>bT (Nat.beq m J) (oO (ahT m k off I R l h) fun r=>pR (.c r) N H)) (oO (AK L T 0 lo) fun l=>oO (AK L T 0 hi) fun h=>bT (Nat.beq l 0) (bT (Nat.beq h 0) (pR (.c .z) N H))) none
def aam (m:Nat) (x:XO) (lo:Option XO) (hi mx:XO):oZ:=fun _ L T N H=>oO (x.get L T) fun v=>xC v fun a=>aS a (fun k off _ I _ J=>oO (AK L T 0 lo) fun l=>oO (AK L T 0 (some hi)) fun h=>oO (AK L T 0 (some mx)) fun M=>bT (Nat.beq m J) (oO (aiO m k off I l h M) fun r=>pR (.c r) N H)) none none
def aha (I:Nat) (x:XO):oZ:=fun _ L T N H=>oO (x.get L T) fun v=>xP v fun k off=>pR (.c (.p k (Nat.add off I))) N H
def aaF (J n:Nat) (x:XO):oZ:=fun _ L T N H=>oO (x.get L T) fun v=>xA v fun I r=>bT (Nat.ble (Nat.add J n) I) (pR (.a n (iY r I J n)) N H)
def aan (I:Nat) (x:XO):oZ:=fun _ L T N H=>oO (x.get L T) fun v=>xA v fun _ r=>oO (rg r I) fun a=>pR (.c a) N H
def ae9 (m:Nat) (x i:XO):oZ:=fun _ L T N H=>oO (x.get L T) fun v=>oO (i.get L T) fun y2=>xC v fun a=>xN y2 fun j=>aS a (fun k off n _ _ I=>bT (Nat.blt j n) (bT (Nat.beq m I) (pR (.c (.p k (Nat.add off (Nat.mul j m)))) N H))) none none
def aag (n m:Nat) (x i:XO):oZ:=fun _ L T N H=>oO (x.get L T) fun v=>oO (i.get L T) fun y2=>xP v fun k off=>xN y2 fun j=>bT (Nat.blt j n) (pR (.c (.p k (Nat.add off (Nat.mul j m)))) N H)
def V2 (d:XD):XV:=@XD.rec (fun _=>XV) (fun x=>.c x) (fun n r=>.a n r) d
def W1 (J:List XD):Nat->Option XD:=@List.rec XD (fun _=>Nat->Option XD) (fun _=>none) (fun d _ I i=>@Bool.rec (fun _=>Option XD) (I (Nat.pred i)) (some d) (Nat.beq i 0)) J
def ZB (x:XO) (i:Nat):oZ:=fun _ L T N H=>oO (x.get L T) fun v=>xT v fun I=>oO (W1 I i) fun d=>pR (V2 d) N H
def fnX (y:AV):List XV->(FuncId->List XV->Option Rs)->Option Rs:=
 @AV.rec (fun _=>List XV->(FuncId->List XV->Option Rs)->Option Rs) (fun _ _ _=>none) (fun _ _ _ _=>none) (fun _ _ _=>none) (fun _ _ _ _=>none) (fun _ _ _ _ _ _ _ _=>none) (fun _ _=>none) (fun _ _=>none) (fun _ _=>none)
  (fun g I f=>f g I.reverse) (fun x _ _ J I f=>J (.c x::I) f) y
def crR (H:Tr Bx) (N:Nat) (r:Cr):Option Rs:=@Cr.rec (fun _=>Option Rs) none (fun x=>some (.mk x N H .p)) (fun x N' H'=>some (.mk x N' H' (.c H H'))) r
def Lk (g:FuncId) (xs:List XO):oZ:=fun call L T N H=>oO (II xs L T) fun vs=>crR H N (call g vs N H)
def TY (f:XO) (xs:List XO):oZ:=fun call L T N H=>oO (f.get L T) fun v=>xC v fun y=>oO (II xs L T) fun vs=>fnX y vs.reverse fun g vs'=>crR H N (call g vs' N H)
def Y6 (x:XO):oZ:=fun _ L T N H=>oO (x.get L T) fun v=>xC v fun a=>aS a (fun _ _ n _ _ _=>pR (.c (.i .i64 (.ofNat n))) N H) (pR (.c (.i .i64 (.ofNat 0))) N H) (pR (.c (.i .i64 (.ofNat 0))) N H)
def af0 (H:Tr Bx) (e m:Nat) (y:AV) (f:Nat->Rp->Option Rs):Option Rs:=
 aS y (fun k off q _ _ I=>oO (H.get k) fun b=>bT (Nat.beq b.U e) (bT (Nat.beq m I) (bT (Nat.ble (Nat.add off (Nat.mul q m)) b.n) (f q (iY b.r b.n off (Nat.mul q m)))))) (f 0 .e) (f 0 .e)
def Xu (x:XV) (N:Nat) (H H':Tr Bx):Option Rs:=some (.mk x N H' (.c H H'))
def aiR (e m I:Nat) (N:Nat) (H:Tr Bx) (q:Nat) (ys:Rp):Option Rs:=bT (Nat.ble (Nat.mul q I) 140737488355328) (bT (Nat.ble q 1000000) (Xu (.c (.s N 0 q q false m)) (Nat.succ N) H (H.set ⟨e,Nat.mul q m,ys⟩ N)))
def ail (e m I:Nat) (N:Nat) (H:Tr Bx) (q:Nat) (ys:Rp) (k off n lo:Nat) (J:Bool) (R:Nat):Option Rs:=
 oO (H.get k) fun b=>bT (Nat.beq b.U e) (bT (Nat.beq m R) (bT (Nat.ble (Nat.mul (Nat.add n q) I) 140737488355328) (bT (Nat.ble (Nat.add n q) 1000000) (bT (Nat.ble (Nat.add off (Nat.mul n m)) b.n)
  (bI (Nat.ble (Nat.add n q) lo)
   (bI (Nat.ble (Nat.add off (Nat.mul (Nat.add n q) m)) b.n)
    (Xu (.c (.s k off (Nat.add n q) lo J m)) N H (H.set ⟨e,b.n,mQ ys b.r b.n (Nat.add off (Nat.mul n m)) (Nat.mul q m)⟩ k))
    (Xu (.c (.s k off (Nat.add n q) lo J m)) N H (H.set ⟨e,Nat.add off (Nat.mul (Nat.add n q) m),iX (Nat.add off (Nat.mul n m)) (iY b.r b.n 0 (Nat.add off (Nat.mul n m))) ys⟩ k)))
   (bI J
    (Xu (.c (.s N 0 (Nat.add n q) (Nat.add n q) false m)) (Nat.succ N) H (H.set ⟨e,Nat.mul (Nat.add n q) m,iX (Nat.mul n m) (iY b.r b.n off (Nat.mul n m)) ys⟩ N))
    (bT (Nat.beq off 0) (Xu (.c (.s N 0 (Nat.add n q) (Nat.add n q) false m)) (Nat.succ N) H ((H.del k).set ⟨e,Nat.mul (Nat.add n q) m,iX (Nat.mul n m) (iY b.r b.n 0 (Nat.mul n m)) ys⟩ N)))))))))
def Zi (e m I:Nat) (x y:XO):oZ:=fun _ L T N H=>oO (x.get L T) fun v=>oO (y.get L T) fun y2=>xC v fun a=>xC y2 fun b=>af0 H e m b fun q ys=>bI (Nat.beq q 0) (aS a (fun k off n lo R J=>pR (.c (.s k off n lo R J)) N H) (pR (.c .z) N H) none) (aS a (fun k off n lo R J=>ail e m I N H q ys k off n lo R J) (aiR e m I N H q ys) none)
def mmX (mx:Bool) (k:IntKind) (vs:List XV):Int->Option Int:=
 @List.rec XV (fun _=>Int->Option Int) (fun a=>some a) (fun v _ J a=>xI v fun I b=>bT (Nat.beq (kN k) (kN I)) (J (bI mx (bI (xv a b) b a) (bI (xv b a) b a)))) vs
def Ym (mx:Bool) (x:XO) (xs:List XO):oZ:=fun _ L T N H=>oO (x.get L T) fun v=>xI v fun k a=>oO (II xs L T) fun vs=>oO (mmX mx k vs a) fun r=>pR (.c (.i k r)) N H
def aah:oZ:=fun _ _ _ _ _=>none
def Zx (x:XO):oZ:=fun _ L T N H=>oO (x.get L T) fun v=>xC v fun a=>aS a (fun _ _ _ lo I _=>bT I (pR (.c (.i .i64 (.ofNat lo))) N H)) (pR (.c (.i .i64 (.ofNat 0))) N H) none
def aad (e m I:Nat) (z:Rp) (x n:XO):oZ:=fun _ L T N H=>oO (x.get L T) fun v=>oO (n.get L T) fun y2=>xC v fun a=>xN y2 fun q=>aS a (fun _ _ _ _ _ _=>none) (bT (Nat.blt 0 q) (bT (Nat.ble (Nat.mul q I) 140737488355328) (bT (Nat.ble q 1000000) (Xu (.c (.s N 0 q q false m)) (Nat.succ N) H (H.set ⟨e,Nat.mul q m,rn m z q⟩ N))))) none
def Zg (m:Nat) (z:Rp) (x:XO):oZ:=fun _ L T N H=>oO (x.get L T) fun v=>xC v fun a=>aS a (fun k off n _ _ I=>bI (Nat.beq n 0) (pR (.t []) N H) (oO (H.get k) fun b=>bT (Nat.beq m I) (bT (Nat.ble (Nat.add off (Nat.mul n m)) b.n) (Xu (.t []) N H (H.set ⟨b.U,b.n,mQ (rn m z n) b.r b.n off (Nat.mul n m)⟩ k))))) (pR (.t []) N H) (pR (.t []) N H)
structure XI where
 dst:Option Nat
 lo:Bool
 g:Option (XO×Bool)
 k:oZ
def Pn (d:Option Nat) (lo:Bool) (x:XV) (L:LX) (T:Tr XV) (κ:LX->Tr XV->Ro):Ro:=
 @Option.rec Nat (fun _=>Ro) (κ L T) (fun d=>@Bool.rec (fun _=>Ro) (κ L (T.set x d)) (κ ((d,x)::L) T) lo) d
def gdX (g:Option (XO×Bool)) (L:LX) (T:Tr XV):Option Bool:=
 @Option.rec (XO×Bool) (fun _=>Option Bool) (some true) (fun p=>oO (p.1.get L T) fun v=>@XV.rec (fun _=>Option Bool) (fun a=>aB a fun b=>some (b==p.2)) (fun _ _=>none) (fun _=>none) (some false) v) g
def WK (call:fV) (i:XI) (L:LX) (T:Tr XV) (N:Nat) (H:Tr Bx) (κ:LX->Tr XV->Nat->Tr Bx->Lg->Ro):Ro:=
 @Option.rec Bool (fun _=>Ro) .no (fun b=>@Bool.rec (fun _=>Ro) (Pn i.dst i.lo .u L T fun L T=>κ L T N H .p)
  (@Option.rec Rs (fun _=>Ro) .no (fun r=>@Rs.rec (fun _=>Ro) (fun x N' H' g=>Pn i.dst i.lo x L T fun L T=>κ L T N' H' g) r) (i.k call L T N H)) b) (gdX i.g L T)
def K7 (call:fV) (l:List XI):LX->Tr XV->Nat->Tr Bx->Ro:=
 @List.rec XI (fun _=>LX->Tr XV->Nat->Tr Bx->Ro) (fun _ T N H=>.n T N H) (fun i _ I L T N H=>WK call i L T N H fun L T N H _=>I L T N H) l
def yY:AV->AV->Bool
 | .b x,.b y=>x==y
 | .i k x,.i k' y=>decide (k=k')&&x==y
 | .l x,.l y=>Nat.beq x y
 | .p k o,.p k' o'=>Nat.beq k k'&&Nat.beq o o'
 | .s k o n l e m,.s k' o' n' l' e' m'=>Nat.beq k k'&&Nat.beq o o'&&Nat.beq n n'&&Nat.beq l l'&&(e==e')&&Nat.beq m m'
 | .z,.z=>true
 | .np,.np=>true
 | .f0 g,.f0 g'=>Nat.beq g g'
 | .fc x y,.fc x' y'=>yY x x'&&yY y y'
 |_,_=>false
def Lf:Rp->Rp->Bool
 | .e,.e=>true
 | .c x,.c y=>yY x y
 | .n _ _ l r,.n _ _ l' r'=>Lf l l'&&Lf r r'
 |_,_=>false
def Ec:Option Bx->Option Bx->Bool
 |none,none=>true
 |some b,some b'=>Nat.beq b.U b'.U&&Lf b.r b'.r
 |_,_=>false
def t7 (H:Tr Bx) (k:Nat):Bool:=@Option.rec Bx (fun _=>Bool) true (fun _=>false) (H.get k)
def apart:Lg->Lg->Bool
 | .p,_=>true
 |_,.p=>true
 | .r _,.r _=>true
 | .r k,.w k'=> !Nat.beq k k'
 | .w k',.r k=> !Nat.beq k k'
 | .r k,.nw k'=> !Nat.beq k k'
 | .nw k',.r k=> !Nat.beq k k'
 | .r k,.c H H'=>Ec (H.get k) (H'.get k)
 | .c H H',.r k=>Ec (H.get k) (H'.get k)
 | .w k,.w k'=> !Nat.beq k k'
 | .w k,.nw k'=> !Nat.beq k k'
 | .nw k',.w k=> !Nat.beq k k'
 | .nw k,.nw k'=> !Nat.beq k k'
 | .c H H',.nw k=>t7 H k&&t7 H' k
 | .nw k,.c H H'=>t7 H k&&t7 H' k
 | .c H H',.w k=>t7 H k&&t7 H' k
 | .w k,.c H H'=>t7 H k&&t7 H' k
 | .c _ _,.c _ _=>false
abbrev D3:=List (Nat×Lg)
def zI (mk:Nat) (g:Lg) (l:D3):Bool:=@List.rec (Nat×Lg) (fun _=>Bool) true (fun p _ I=>@Bool.rec (fun _=>Bool) (bA (apart p.2 g) I) I (Nat.testBit mk p.1)) l
def afT (mk:Nat) (l:D3):List Nat:=@List.rec (Nat×Lg) (fun _=>List Nat) [] (fun p _ I=>@Bool.rec (fun _=>List Nat) (@Lg.rec (fun _=>List Nat) I (fun _=>I) (fun _=>I) (fun k=>k::I) (fun _ _=>I) p.2) I (Nat.testBit mk p.1)) l
def O4 (H:Tr Bx):List Nat->Tr Bx
 |[]=>H
 |k::r=>O4 (H.del k) r
def Ik (H0 I:Tr Bx):List Nat->Tr Bx->Option (Tr Bx)
 |[],H=>some H
 |k::r,H=>match I.get k,H0.get k with
  |none,some b=>Ik H0 I r (H.set b k)
  |_,_=>none
structure XJ where
 i:XI
 cl:Bool
 bf:Nat
def FS (mk k:Nat) (g:Lg) (J I:D3) (κ:D3->D3->Ro):Ro:=bI (zI mk g I) (bI (zI mk g J) (κ J ((k,g)::I)) .no) .no
def XB (mk k:Nat) (g:Lg) (J I:D3) (κ:D3->D3->Ro):Ro:=
 @Lg.rec (fun _=>Ro) (κ J I) (fun b=>bI (zI mk (.r b) I) (κ ((k,.r b)::J) I) .no) (fun b=>FS mk k (.w b) J I κ) (fun b=>FS mk k (.nw b) J I κ) (fun H H'=>FS mk k (.c H H') J I κ) g
def Sc (g:Lg):Bool:=@Lg.rec (fun _=>Bool) true (fun _=>false) (fun _=>false) (fun _=>false) (fun _ _=>true) g
def OX (call:fV) (i:XI) (hs:List Nat) (L:LX) (T:Tr XV) (N:Nat) (H:Tr Bx) (κ:LX->Tr XV->Nat->Tr Bx->Lg->Ro):Ro:=
 @List.rec Nat (fun _=>Ro) (WK call i L T N H κ) (fun h t _=>WK call i L T N (O4 H (h::t)) fun L T N H' g=>bI (Sc g) (@Option.rec (Tr Bx) (fun _=>Ro) .no (fun H2=>κ L T N H2 g) (Ik H H' (h::t) H')) .no) hs
def FP (call:fV) (l:List XJ):Nat->LX->Tr XV->Nat->Tr Bx->D3->D3->Ro:=
 @List.rec XJ (fun _=>Nat->LX->Tr XV->Nat->Tr Bx->D3->D3->Ro) (fun _ _ T N H _ _=>.n T N H)
  (fun j _ R k L T N H J I=>OX call j.i (@Bool.rec (fun _=>List Nat) [] (afT j.bf I) j.cl) L T N H fun L T N H g=>XB j.bf k g J I fun J I=>R (Nat.succ k) L T N H J I) l
def afU:te:=fun _ _ T N H=>.n T N H
def ahE (l:List XI):te:=fun call _ T N H=>K7 call l [] T N H
def ah8 (l:List XJ):te:=fun call _ T N H=>FP call l 0 [] T N H [] []
def aeR (a b:te):te:=fun call f T N H=>@Ro.rec (fun _=>Ro) .no (fun T N H=>b call f T N H) (fun id T N H=>.x id T N H) (fun T N H=>.r T N H) (a call f T N H)
def Z9 (t:Nat) (a b:te):te:=fun call f T N H=>@Option.rec Bool (fun _=>Ro) .no (fun v=>@Bool.rec (fun _=>Ro) (b call f T N H) (a call f T N H) v) (oO (T.get t) fun v=>xB v some)
def QO (id:Nat) (c:te):te:=fun call f T N H=>@Ro.rec (fun _=>Ro) .no (fun T N H=>.n T N H) (fun I T N H=>@Bool.rec (fun _=>Ro) (.x I T N H) (.n T N H) (Nat.beq I id)) (fun T N H=>.r T N H) (c call f T N H)
def afq (c:te):te:=fun call f=>@Nat.rec (fun _=>Tr XV->Nat->Tr Bx->Ro) (fun _ _ _=>.no) (fun _ I T N H=>@Ro.rec (fun _=>Ro) .no (fun T N H=>I T N H) (fun id T N H=>.x id T N H) (fun T N H=>.r T N H) (c call f T N H)) f
def agv (id:Nat):te:=fun _ _ T N H=>.x id T N H
def ais:te:=fun _ _ T N H=>.r T N H
inductive XR where
 |t (n:Nat)
 |c (t n:Nat)
 |c1 (t:Nat)
structure XF where
 pure:Bool
 run:te
 rs:List XR
 na:Nat
def toD (v:XV):Option XD:=@XV.rec (fun _=>Option XD) (fun x=>some (.c x)) (fun n r=>some (.a n r)) (fun _=>none) none v
def acN (T:Tr XV) (H:Tr Bx) (r:XR):Option XD:=@XR.rec (fun _=>Option XD) (fun n=>oO (T.get n) toD) (fun t n=>oO (T.get t) fun v=>xP v fun k off=>oO (H.get k) fun b=>bT (Nat.ble (Nat.add off n) b.n) (some (.a n (iY b.r b.n off n)))) (fun t=>oO (T.get t) fun v=>xP v fun k off=>oO (H.get k) fun b=>oO (rg b.r off) fun a=>some (.c a)) r
def uQ (T:Tr XV) (H:Tr Bx) (rs:List XR):Option (List XD):=@List.rec XR (fun _=>Option (List XD)) (some []) (fun r _ J=>oO (acN T H r) fun d=>oO J fun I=>some (d::I)) rs
def qm (I:List XD):XV:=@List.rec XD (fun _=>XV) (.t []) (fun d r _=>@List.rec XD (fun _=>XV) (V2 d) (fun _ _ _=>.t (d::r)) r) I
def rE (vs:List XV):Nat->Tr XV->Tr XV:=@List.rec XV (fun _=>Nat->Tr XV->Tr XV) (fun _ t=>t) (fun v _ I k t=>I (Nat.succ k) (t.set v k)) vs
def Z5 (v:XV):Bool:=@XV.rec (fun _=>Bool) puA (fun _ r=>puR r) (fun _=>false) false v
def puL (vs:List XV):Bool:=@List.rec XV (fun _=>Bool) true (fun v _ I=>bA (Z5 v) I) vs
def puD (J:List XD):Bool:=@List.rec XD (fun _=>Bool) true (fun d _ I=>bA (Z5 (V2 d)) I) J
structure Env where
 pr:Tr (List XV->Option (List XD))
 fs:Tr (Option XF)
def abl (vs:List XV):Nat->Bool:=@List.rec XV (fun _=>Nat->Bool) (fun _=>true) (fun _ _ I n=>@Nat.rec (fun _=>Bool) false (fun k _=>I k) n) vs
def Q0 (_F:XF) (κ:Tr XV->Nat->Tr Bx->Cr) (r:Ro):Cr:=@Ro.rec (fun _=>Cr) .no κ (fun _ _ _ _=>.no) κ r
def A7 (F:XF) (J:fV) (et:Nat) (vs:List XV) (N:Nat) (H:Tr Bx):Cr:=
 @Bool.rec (fun _=>Cr) .no (@Bool.rec (fun _=>Cr)
  (Q0 F (fun T N' H'=>@Option.rec (List XD) (fun _=>Cr) .no (fun I=>.h (qm I) N' H') (uQ T H' F.rs)) (F.run J et (rE vs 0 .e) N H))
  (Q0 F (fun T _ H'=>@Option.rec (List XD) (fun _=>Cr) .no (fun I=>@Bool.rec (fun _=>Cr) .no (.p (qm I)) (puD I)) (uQ T H' F.rs)) (F.run J et (rE vs 0 .e) 0 .e))
  (bA F.pure (puL vs))) (abl vs F.na)
def Qe (E:Env) (et:Nat) (depth:Nat):fV:=
 @Nat.rec (fun _=>fV) (fun _ _ _ _=>.no) (fun _ J g vs N H=>
  @Option.rec (List XD) (fun _=>Cr) (@Option.rec XF (fun _=>Cr) .no (fun F=>A7 F J et vs N H) (oO (E.fs.get g) fun x=>x)) (fun I=>.p (qm I)) (oO (E.pr.get g) fun p=>p vs)) depth
def lE {α β:Type}(f:α->Option β):List α->Option (List β)
 |[]=>some []
 |x::xs=>match f x with
  |none=>none
  |some y=>match lE f xs with
   |none=>none
   |some ys=>some (y::ys)
def mZ:Value->Option AV
 | .bool b=>some (.b b)
 | .int k n=>some (.i k n)
 | .slice none 0 0=>some .z
 | .pointer none=>some .np
 |_=>none
def T7:Value->Option XV
 | .agg cs=>(lE mZ cs.toList).map fun l=>.a l.length (vV l)
 |v=>(mZ v).map .c
def acA:Value->Option (List AV)
 | .agg cs=>lE mZ cs.toList
 |v=>(mZ v).map fun x=>[x]
def zcA (P:Program) (U:TypeId):Option (List AV):=
 match P.info? U with
 |some i=>match i.zero with
  |some z=>acA z
  |none=>none
 |none=>none
def QR (P:Program) (U:TypeId):Option (TypeId×Nat×Nat×List AV):=
 match P.underlying U with
 |some (.slice e)=>match P.info? e,zcA P e with
  |some i,some zs=>bif Nat.beq zs.length i.size&&Nat.blt 0 i.size then some (e,i.size,i.bytes,zs) else none
  |_,_=>none
 |_=>none
def arA (P:Program) (U:TypeId):Option (Nat×Nat):=
 match P.underlying U with
 |some (.array n e)=>(P.info? e).map fun i=>(n,i.size)
 |_=>none
def YM (P:Program) (U:TypeId):Option IntKind:=
 match P.underlying U with
 |some (.int k)=>some k
 |_=>none
def ajf (P:Program) (U:TypeId) (f:Nat):Option (Nat×Bool×Nat):=
 match P.underlying U with
 |some (.struct fs)=>match fs[f]? with
  |some fd=>(mT P fd.type).map fun p=>(fd.offset,p)
  |none=>none
 |_=>none
def cO (m:Nat):Operand->Option XO
 | .tmp t=>bif m.testBit t then some (.l t) else some (.t t)
 | .const v=>(T7 v).map .k
 | .func g=>some (.k (.c (.f0 g)))
 | .global _=>none
def FL (m:Nat):Option Operand->Option (Option XO)
 |none=>some none
 |some x=>(cO m x).map some
def cPs (m:Nat) (I:Nat->Option (Nat×Nat)):List (Nat×Operand)->Option (List (Nat×Nat×XO))
 |[]=>some []
 |(i,x)::r=>match I i,cO m x,cPs m I r with
  |some (off,sz),some y,some ys=>some ((off,sz,y)::ys)
  |_,_,_=>none
def o1 (m:Nat) (f:XO->oZ) (x:Operand):Option oZ:=(cO m x).map f
def o2 (m:Nat) (f:XO->XO->oZ) (x y:Operand):Option oZ:=match cO m x,cO m y with
 |some a,some b=>some (f a b)
 |_,_=>none
def ahq (k:IntKind) (x y:Int):Option AV:=some (.i k (AJ k (Int.add x y)))
def ahQ (k:IntKind) (x y:Int):Option AV:=some (.i k (AJ k (Int.sub x y)))
def aht (k:IntKind) (x y:Int):Option AV:=some (.i k (AJ k (Int.mul x y)))
def aft (k:IntKind) (x y:Int):Option AV:=bI (LH y 0) none (some (.i k (AJ k (Int.tdiv x y))))
def aeO (k:IntKind) (x y:Int):Option AV:=bI (LH y 0) none (some (.i k (Int.tmod x y)))
def ahl (k:IntKind) (x y:Int):Option AV:=some (.i k (k.wrap (BitVec.ofInt k.bits x&&&BitVec.ofInt k.bits y).toNat))
def fOr (k:IntKind) (x y:Int):Option AV:=some (.i k (k.wrap (BitVec.ofInt k.bits x|||BitVec.ofInt k.bits y).toNat))
def ahV (k:IntKind) (x y:Int):Option AV:=some (.i k (k.wrap (BitVec.ofInt k.bits x^^^BitVec.ofInt k.bits y).toNat))
def ahK (_:IntKind) (x y:Int):Option AV:=some (.b (LH x y))
def ahO (_:IntKind) (x y:Int):Option AV:=some (.b (bI (LH x y) false true))
def aiA (_:IntKind) (x y:Int):Option AV:=some (.b (xv x y))
def ahv (_:IntKind) (x y:Int):Option AV:=some (.b (bI (xv y x) false true))
def ahI (_:IntKind) (x y:Int):Option AV:=some (.b (xv y x))
def ahi (_:IntKind) (x y:Int):Option AV:=some (.b (bI (xv x y) false true))
def ag8 (k:IntKind) (x y:Int):Option AV:=bI (xv y 0) none (some (.i k (k.wrap (x*2^(min y.toNat k.bits)))))
def ael (k:IntKind) (x y:Int):Option AV:=bI (xv y 0) none (some (.i k (x.fdiv (2^(min y.toNat k.bits)))))
def W8:BinOp->Option (IntKind->Int->Int->Option AV)
 | .add=>some ahq| .sub=>some ahQ| .mul=>some aht| .quo=>some aft| .rem=>some aeO
 | .and=>some ahl| .or=>some fOr| .xor=>some ahV
 | .eql=>some ahK| .neq=>some ahO| .lss=>some aiA| .leq=>some ahv| .gtr=>some ahI| .geq=>some ahi
 |_=>none
def adU:BinOp->Option (IntKind->Int->Int->Option AV)
 | .shl=>some ag8| .shr=>some ael
 |_=>none
def fd2 (P:Program) (U:TypeId) (f:Nat):Option (Bool×Nat×Nat):=
 match P.underlying U with
 |some (.struct fs)=>match fs[f]? with
  |some fd=>match mT P fd.type with
   |some (b,n)=>some (b,fd.offset,n)
   |none=>none
  |none=>none
 |_=>none
def AO (P:Program) (m:Nat):Op->Option oZ
 | .move x=>o1 m Ww x
 | .assign x=>o1 m Ww x
 | .pick c a b=>match cO m c with
   |some c=>o2 m (SW c) a b
   |none=>none
 | .alloc U=>(zcA P U).map fun zs=>MJ U zs.length (vV zs)
 | .box U x=>o1 m (Zp U) x
 | .build U ps=>match H4 P U,zcA P U with
   |some pl,some zs=>(cPs m (fun i=>pl[i]?) ps.toList).map (MF zs.length (vV zs))
   |_,_=>none
 | .buildSlice U n ps=>match QR P U with
   |some (e,sz,_,zs)=>bif Nat.ble (n*sz) 10000 then(cPs m (fun i=>some (i*sz,sz)) ps.toList).map (aab e n sz (rn sz (vV zs) n)) else none
   |none=>none
 | .load U x=>match mT P U with
   |some (true,n)=>o1 m (ZD n) x
   |some (false,_)=>o1 m aav x
   |none=>none
 | .store U a x=>match mT P U with
   |some (_,n)=>o2 m (afu n) a x
   |none=>none
 | .nilCheck x=>o1 m Ub x
 | .binOp op U x y _=>match P.underlying U with
   |some .bool=>match op with
    | .eql=>o2 m (Nj false) x y
    | .neq=>o2 m (Nj true) x y
    |_=>none
   |some (.int _)=>match W8 op with
    |some f=>o2 m (ZN f) x y
    |none=>match adU op with
     |some f=>o2 m (aaH f) x y
     |none=>none
   |some (.slice _)=>match op,y with
    | .eql,.const (.slice none 0 0)=>o1 m (Oh false) x
    | .neq,.const (.slice none 0 0)=>o1 m (Oh true) x
    |_,_=>none
   |_=>none
 | .unOp .not _ x=>o1 m ZU x
 | .unOp .neg _ x=>o1 m Y7 x
 | .convert s d x=>match YM P s,YM P d with
   |some _,some k=>o1 m (Qp k) x
   |_,_=>none
 | .makeFunc (.func g) first cs=>bif first.isEmpty then(lE (cO m) cs.toList).map (aaw g) else none
 | .makeSlice U n c=>match QR P U with
   |some (e,sz,by_,zs)=>o2 m (aaD e sz by_ (vV zs)) n c
   |none=>none
 | .slice U x lo hi mx=>match pT P U,cO m x,FL m lo,FL m hi,FL m mx with
   |some sz,some x,some lo,some hi,some none=>some (Z7 sz x lo hi)
   |some sz,some x,some lo,some (some hi),some (some mx)=>some (aam sz x lo hi mx)
   |_,_,_,_,_=>none
 | .fieldAddr U x f=>match VA P U f with
   |some off=>o1 m (aha off) x
   |none=>none
 | .field U x f=>match fd2 P U f with
   |some (true,off,n)=>o1 m (aaF off n) x
   |some (false,off,_)=>o1 m (aan off) x
   |none=>none
 | .indexAddr U x i=>match pT P U with
   |some sz=>o2 m (ae9 sz) x i
   |none=>match arA P U with
    |some (n,sz)=>o2 m (aag n sz) x i
    |none=>none
 | .index U (.const (.string b)) i=>match P.underlying U with
   |some .string=>o1 m (SV b) i
   |_=>none
 | .extract x i=>o1 m (ZB · i) x
 | .call ⟨.value (.func g),xs,_⟩=>(lE (cO m) xs.toList).map (Lk g)
 | .call ⟨.value (.tmp t),xs,_⟩=>match cO m (.tmp t),lE (cO m) xs.toList with
   |some f,some xs=>some (TY f xs)
   |_,_=>none
 | .call ⟨.builtin .len,xs,ts⟩=>match xs.toList,ts.toList with
   |[x],[U]=>match pT P U with
    |some _=>o1 m Y6 x
    |none=>none
   |_,_=>none
 | .call ⟨.builtin .append,xs,ts⟩=>match xs.toList,ts.toList with
   |[x,y],[U,W]=>match QR P U with
    |some (e,sz,by_,zs)=>bif Nat.beq U W then o2 m (Zi e sz by_) x y else match YM P W with
     |some _=>o2 m (aad e sz by_ (vV zs)) x y
     |none=>none
    |none=>none
   |_,_=>none
 | .call ⟨.builtin .cap,xs,ts⟩=>match xs.toList,ts.toList with
   |[x],[U]=>match pT P U with
    |some _=>o1 m Zx x
    |none=>none
   |_,_=>none
 | .call ⟨.builtin .max,xs,_⟩=>match xs.toList with
   |x::r=>match cO m x,lE (cO m) r with
    |some x,some r=>some (Ym true x r)
    |_,_=>none
   |_=>none
 | .call ⟨.builtin .min,xs,_⟩=>match xs.toList with
   |x::r=>match cO m x,lE (cO m) r with
    |some x,some r=>some (Ym false x r)
    |_,_=>none
   |_=>none
 | .call ⟨.builtin .clear,xs,ts⟩=>match xs.toList,ts.toList with
   |[x],[U]=>match QR P U with
    |some (_,sz,_,zs)=>o1 m (Zg sz (vV zs)) x
    |none=>none
   |_,_=>none
 |_=>none
def cG (m:Nat) (eO:Array Oper) (o:Oper):Option (Option (XO×Bool)):=
 match o.guard with
 |none=>some none
 |some (g,b)=>match (eO[g]?).bind (·.dst) with
  |some t=>(cO m (.tmp t)).map fun x=>some (x,b)
  |none=>none
def aaI (n:Nat):Option Nat->Bool
 |none=>true
 |some d=>Nat.blt d n
def WC (m:Nat):Option Nat->Bool
 |none=>false
 |some d=>m.testBit d
def Xc (P:Program) (n m:Nat) (eO:Array Oper) (o:Oper):Option XI:=
 bif aaI n o.dst then
  match cG m eO o,AO P m o.op with
  |some g,some k=>some ⟨o.dst,WC m o.dst,g,k⟩
  |some g,none=>some ⟨o.dst,WC m o.dst,g,aah⟩
  |_,_=>none
 else none
def Kf (I:List Nat) (o:Oper):Nat:=(bP o).foldl (fun m j=>m|||2^j|||I.getD j 0) 0
def ol (l:List Oper):List Nat:=l.foldl (fun I o=>I++[Kf I o]) []
def Gj:Op->Bool
 | .call ⟨.value _,_,_⟩=>true
 |_=>false
def MC (d:Option Nat) (l:List Nat):Bool:=match d with
 |none=>false
 |some d=>l.any (Nat.beq d)
def aeY (d e:Option Nat):Bool:=match d,e with
 |some d,some e=>Nat.beq d e
 |_,_=>false
def VO (eO:Array Oper) (p q:Oper):Bool:= !MC p.dst (q.looksAt eO)&& !MC q.dst (p.looksAt eO)&& !aeY p.dst q.dst
def unB (eO:Array Oper) (I:List Nat) (l:List Oper) (i:Nat):Bool:=match l[i]? with
 |none=>false
 |some q=>(bP q).all (fun j=>Nat.blt j i)&&(List.range i).all fun j=>(I.getD i 0).testBit j||match l[j]? with
  |none=>false
  |some p=>VO eO p q
def vb (P:Program) (n m:Nat) (eO:Array Oper):List Nat->List Oper->Option (List XJ)
 |mk::ms,o::r=>match Xc P n m eO o with
  |none=>none
  |some x=>match vb P n m eO ms r with
   |none=>none
   |some xs=>some (⟨x,Gj o.op,mk⟩::xs)
 |_,_=>some []
def cC (P:Program) (n m:Nat):Code->Option te
 | .skip=>some afU
 | .region _ eO draw=>match draw with
   |false=>(lE (Xc P n m eO) eO.toList).map ahE
   |true=>bif (List.range eO.size).all (unB eO (ol eO.toList) eO.toList) then(vb P n m eO (ol eO.toList) eO.toList).map ah8 else none
 | .seq a b=>match cC P n m a with
   |none=>none
   |some x=>match cC P n m b with
    |none=>none
    |some y=>some (aeR x y)
 | .cond (.tmp t) a b=>match cC P n m a with
   |none=>none
   |some x=>match cC P n m b with
    |none=>none
    |some y=>bif m.testBit t then none else some (Z9 t x y)
 | .cond (.const (.bool b)) x y=>match b with
   |true=>cC P n m x
   |false=>cC P n m y
 | .block id c=>(cC P n m c).map (QO id)
 | .loop c=>(cC P n m c).map afq
 | .exit id=>some (agv id)
 | .ret=>some ais
 |_=>none
def cR2 (P:Program) (m:Nat):ResultVar->Option XR
 | .tmp t=>bif m.testBit t then none else some (.t t)
 | .cell t U=>bif m.testBit t then none else match mT P U with
   |some (true,n)=>some (.c t n)
   |some (false,_)=>some (.c1 t)
   |none=>none
def cF (P:Program) (I:Bool) (m:Nat) (fn:Func):Option XF:=match fn.body with
 |none=>none
 |some c=>match cC P fn.ntmps m c,lE (cR2 P m) fn.results.toList with
  |some x,some rs=>some ⟨I,x,rs,fn.ntmps⟩
  |_,_=>none
def SO {α:Type}:List (Nat×α)->Tr α
 |[]=>.e
 |(k,v)::r=>(SO r).set v k
end
end Go.Proofs.YtegeknjkgadehaaGreat
