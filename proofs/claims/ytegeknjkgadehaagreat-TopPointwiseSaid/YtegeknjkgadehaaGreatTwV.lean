/-PointOrder:places and the law at all readings. -/
import Derived.Test.YtegeknjkgadehaaGreatTwU
namespace Go.Proofs.YtegeknjkgadehaaGreat
open Go Go.RowKit
noncomputable section
variable {A A2 B B2 C D x:Int}{Y Z:List CellD}{vs vs':List Value}{M M' i j k:Nat}{b b2 c:Rat}{v:Value}
theorem Rz.rC (h:Rz k c) (g:1<=k):Rz k (rC b c):=by
 unfold Go.Proofs.YtegeknjkgadehaaGreat.rC;split;·exact iO g
 ·exact h
theorem agA: ¬Um (rB b c) (rC b c) (rB b2 c) (rC b2 c):=by
 rintro⟨g,u,h⟩;unfold rB at g u;unfold rC at h;split at g;·exact g rfl
 ·split at u;·exact u rfl
  ·rename_i y E;rw[if_neg y,if_neg E] at h;exact h rfl
theorem VR (lA: -32768<=A) (uA:A<=32767) (lB: -32768<=B) (uB:B<=32767) (W: -32768<=A2) (U:A2<=32767) (K: -32768<=B2) (a1:B2<=32767) (y:0<=C) (uC:C<=65535) (lD:0<=D) (uD:D<=255) (hs:jB ((C:Int):Rat)=true):Ok Tryz.prog 7 [.a (([.i .i16 A]++[.i .i16 B]++[.i .i16 A2]++[.i .i16 B2]++[.i .u16 C]++[.i .u8 D]))] [.a ((cR (Rat.divInt (A+B*bp C) (D+1))++cR 0++cR (Rat.divInt (A2+B2*bp C) (D+1))++cR 0++cR 0))]:=by have J:Rz 50 (Rat.divInt A (D+1)):=Rz.of (eE (by decide) (by omega) (by omega)) (eE (by decide) (by omega) (by omega)) (by omega);have R:Rz 50 (Rat.divInt B (D+1)):=Rz.of (eE (by decide) (by omega) (by omega)) (eE (by decide) (by omega) (by omega)) (by omega);have E:Rz 50 (Rat.divInt A2 (D+1)):=Rz.of (eE (by decide) (by omega) (by omega)) (eE (by decide) (by omega) (by omega)) (by omega);have I:Rz 50 (Rat.divInt B2 (D+1)):=Rz.of (eE (by decide) (by omega) (by omega)) (eE (by decide) (by omega) (by omega)) (by omega);have u:Rz 50 ((C:Int):Rat):=Rz.int (eE (by decide) (by omega) (by omega)) (by decide);have g: ¬((C:Int):Rat)<0:=Rat.not_lt.2 (zm.2 y);have a0:Rz 300 ((C:Int):Rat):=u.m_;have k0:Rz 300 (0:Rat):=iO (by decide);refine cj Tryz.func7 rfl<|ar (dL ty5 rfl)<|ar (bj (r:=D) WK nu rfl (jQ (by omega) (by omega)) rfl) ?_;refine ar (b9 (D+1) (aT (by omega) (by omega)) rfl)<|ar (dL adQ rfl)<|ar (bj (r:=C) Zi nu rfl (jQ (by omega) (by omega)) rfl) ?_;refine ac rfl ((show Ok Tryz.prog 30 [.c (.i .i64 C)] [dR ((C:Int):Rat)] from qB (by omega) (by omega)))<|cE 18 [5,999999] ?_;refine aq (dL Du rfl) ?_;refine aq (bj (r:=A) vE nu rfl (jQ (by omega) (by omega)) rfl) ?_;refine aG rfl (jD (by omega) (by omega) (by omega) (by omega) (by omega)) ?_;refine aq (dL Du rfl) ?_;refine aq (bj (r:=B) vE nu rfl (jQ (by omega) (by omega)) rfl) ?_;refine aG rfl (jD (by omega) (by omega) (by omega) (by omega) (by omega)) ?_;refine aG rfl (xz (DF J R u g hs) ((congrArg (fun q=>Rat.divInt A (D+1)+Rat.divInt B (D+1)*q) (SX y hs)).trans (Mt (by omega))) rfl rfl) ?_;refine DQ.mk<|kI (fJ jG rfl) rfl rfl rfl rfl<|ek ?_;refine cE 18 [7,999999] ?_;refine aq (dL Du rfl) ?_;refine aq (bj (r:=A2) vE nu rfl (jQ (by omega) (by omega)) rfl) ?_;refine aG rfl (jD (by omega) (by omega) (by omega) (by omega) (by omega)) ?_;refine aq (dL Du rfl) ?_;refine aq (bj (r:=B2) vE nu rfl (jQ (by omega) (by omega)) rfl) ?_;refine aG rfl (jD (by omega) (by omega) (by omega) (by omega) (by omega)) ?_;refine aG rfl (xz (DF E I u g hs) ((congrArg (fun q=>Rat.divInt A2 (D+1)+Rat.divInt B2 (D+1)*q) (SX y hs)).trans (Mt (by omega))) rfl rfl) ?_;refine DQ.mk<|kI (fJ jG rfl) rfl rfl rfl rfl<|ek ?_;refine ac rfl (abo (EO k0 k0 (fun h=>h.1 rfl)) rfl rfl rfl rfl (RM rfl rfl)) ?_;exact ah (a7 bo rfl aa)
theorem VS (lA: -32768<=A) (uA:A<=32767) (lB: -32768<=B) (uB:B<=32767) (W: -32768<=A2) (U:A2<=32767) (J: -32768<=B2) (a0:B2<=32767) (K:0<=C) (uC:C<=65535) (lD:0<=D) (uD:D<=255) (hs:jB ((C:Int):Rat)=false):Ok Tryz.prog 7 [.a (([.i .i16 A]++[.i .i16 B]++[.i .i16 A2]++[.i .i16 B2]++[.i .u16 C]++[.i .u8 D]))] [.a ((cR (Rat.divInt A (D+1))++cR (rB (Rat.divInt B (D+1)) ((C:Int):Rat))++cR (Rat.divInt A2 (D+1))++cR (rB (Rat.divInt B2 (D+1)) ((C:Int):Rat))++cR (zcp (rB (Rat.divInt B (D+1)) ((C:Int):Rat)) (rB (Rat.divInt B2 (D+1)) ((C:Int):Rat)) (cc (rB (Rat.divInt B (D+1)) ((C:Int):Rat)) (rC (Rat.divInt B (D+1)) ((C:Int):Rat)) (rC (Rat.divInt B2 (D+1)) ((C:Int):Rat))))))]:=by have I:Rz 50 (Rat.divInt A (D+1)):=Rz.of (eE (by decide) (by omega) (by omega)) (eE (by decide) (by omega) (by omega)) (by omega);have R:Rz 50 (Rat.divInt B (D+1)):=Rz.of (eE (by decide) (by omega) (by omega)) (eE (by decide) (by omega) (by omega)) (by omega);have y:Rz 50 (Rat.divInt A2 (D+1)):=Rz.of (eE (by decide) (by omega) (by omega)) (eE (by decide) (by omega) (by omega)) (by omega);have E:Rz 50 (Rat.divInt B2 (D+1)):=Rz.of (eE (by decide) (by omega) (by omega)) (eE (by decide) (by omega) (by omega)) (by omega);have u:Rz 50 ((C:Int):Rat):=Rz.int (eE (by decide) (by omega) (by omega)) (by decide);have g: ¬((C:Int):Rat)<0:=Rat.not_lt.2 (zm.2 K);have h:Rz 300 ((C:Int):Rat):=u.m_;have k0:Rz 300 (0:Rat):=iO (by decide);refine cj Tryz.func7 rfl<|ar (dL ty5 rfl)<|ar (bj (r:=D) WK nu rfl (jQ (by omega) (by omega)) rfl) ?_;refine ar (b9 (D+1) (aT (by omega) (by omega)) rfl)<|ar (dL adQ rfl)<|ar (bj (r:=C) Zi nu rfl (jQ (by omega) (by omega)) rfl) ?_;refine ac rfl ((show Ok Tryz.prog 30 [.c (.i .i64 C)] [dR ((C:Int):Rat)] from qB (by omega) (by omega)))<|cE 18 [5,999999] ?_;refine aq (dL Du rfl) ?_;refine aq (bj (r:=A) vE nu rfl (jQ (by omega) (by omega)) rfl) ?_;refine aG rfl (jD (by omega) (by omega) (by omega) (by omega) (by omega)) ?_;refine aq (dL Du rfl) ?_;refine aq (bj (r:=B) vE nu rfl (jQ (by omega) (by omega)) rfl) ?_;refine aG rfl (jD (by omega) (by omega) (by omega) (by omega) (by omega)) ?_;refine aG rfl (DS I R u g hs) ?_;refine DQ.mk<|kI (fJ jG rfl) rfl rfl rfl rfl<|ek ?_;refine cE 18 [7,999999] ?_;refine aq (dL Du rfl) ?_;refine aq (bj (r:=A2) vE nu rfl (jQ (by omega) (by omega)) rfl) ?_;refine aG rfl (jD (by omega) (by omega) (by omega) (by omega) (by omega)) ?_;refine aq (dL Du rfl) ?_;refine aq (bj (r:=B2) vE nu rfl (jQ (by omega) (by omega)) rfl) ?_;refine aG rfl (jD (by omega) (by omega) (by omega) (by omega) (by omega)) ?_;refine aG rfl (DS y E u g hs) ?_;refine DQ.mk<|kI (fJ jG rfl) rfl rfl rfl rfl<|ek ?_;refine ac rfl (EO (Rz.rC h (by decide)) (Rz.rC h (by decide)) agA) ?_;exact ah (a7 bo rfl aa)
theorem adi {X Y:Int}(E: -32768<=X) (u:X<=32767) (g: -32768<=Y) (h:Y<=32767) (D0:0<=D) (y:D<=255):Ok Tryz.prog 8 [.a (([.i .i16 X]++[.i .i16 Y]++[.i .u8 D]))] [.a ((cR (Rat.divInt X (D+1))++cR (Rat.divInt Y (D+1))))]:=by refine cj Tryz.func8 rfl<|ar (dL ty5 rfl)<|ar (bj (r:=D) WK nu rfl (jQ (by omega) (by omega)) rfl) ?_;refine ar (b9 (D+1) (aT (by omega) (by omega)) rfl)<|cE 11 [] ?_;refine aq (dL Du rfl) ?_;refine aq (bj (r:=X) vE nu rfl (jQ (by omega) (by omega)) rfl) ?_;refine aG rfl (jD (by omega) (by omega) (by omega) (by omega) (by omega)) ?_;refine aq (dL Du rfl) ?_;refine aq (bj (r:=Y) vE nu rfl (jQ (by omega) (by omega)) rfl) ?_;refine aG rfl (jD (by omega) (by omega) (by omega) (by omega) (by omega))<|aq (az (us:=(cR (Rat.divInt X (D+1))++cR (Rat.divInt Y (D+1)))) Ku IQ rfl rfl rfl) ?_;exact ah (a7 Af rfl aa)
structure PlD where
 a:Int
 b:Int
 a2:Int
 b2:Int
 c:Int
 d:Int
structure PlD.Wf (p:PlD):Prop where
 a0: -32768<=p.a
 a1:p.a<=32767
 b0: -32768<=p.b
 b1:p.b<=32767
 e0: -32768<=p.a2
 e1:p.a2<=32767
 f0: -32768<=p.b2
 f1:p.b2<=32767
 c0:0<=p.c
 c1:p.c<=65535
 d0:0<=p.d
 d1:p.d<=255
def cPl (p:PlD):List CellD:=[.i .i16 p.a]++[.i .i16 p.b]++[.i .i16 p.a2]++[.i .i16 p.b2]++[.i .u16 p.c]++[.i .u8 p.d]
structure SpD where
 x:Int
 y:Int
 d:Int
structure SpD.Wf (p:SpD):Prop where
 x0: -32768<=p.x
 x1:p.x<=32767
 y0: -32768<=p.y
 y1:p.y<=32767
 d0:0<=p.d
 d1:p.d<=255
def cSp (p:SpD):List CellD:=[.i .i16 p.x]++[.i .i16 p.y]++[.i .u8 p.d]
theorem Rz.rB (h:Rz k b) (g:1<=k):Rz k (rB b c):=by
 unfold Go.Proofs.YtegeknjkgadehaaGreat.rB;split;·exact iO g
 ·exact h
theorem Sz.one1 (h: -1000000000<x) (g:x<1000000000):Sz 1 x:=by
 have e:pw 1=1000000000:=by decide+kernel
 exact⟨by omega,by omega⟩
theorem aaq {E C:Rat}(I:0<C) (hs:jB C=false):s9 (rB E C) (rB b2 C) (zcp (rB E C) (rB b2 C) (cc (rB E C) (rC E C) (rC b2 C)))=true:=by
 have J:C≠0:=fun e=>by rw[e] at I;exact Rat.lt_irrefl I
 have e: ∀b,rB b C=b:=fun b=>by
  unfold rB;by_cases h:b=0;·rw[if_pos (.inl h),h]
  ·rw[if_neg (fun g=>g.elim h J)]
 have K: ∀b,b≠0->rC b C=C:=fun b h=>by unfold rC;rw[if_neg (fun g=>g.elim h J)]
 rw[e,e];by_cases u:E=0
 ·rw[Ho u];by_cases y:b2=0;·rw[RM u y];unfold s9;rw[if_pos ⟨u,y⟩];exact decide_eq_true rfl
  ·rw[Q4 y,K _ y];unfold s9;rw[if_neg (fun g=>y g.2),hs,decide_eq_true I];rfl
 ·rw[zn u,PG u,K _ u];unfold s9;rw[if_neg (fun g=>u g.1),hs,decide_eq_true I];rfl
theorem afY {p:PlD}(w:p.Wf): ∃q:Pt,GP q/\Ok Tryz.prog 7 [.a (cPl p)] [.a (ai q)]:=by
 obtain⟨w1,w2,w3,w4,w5,w6,W,w8,E,c1,w9,y⟩:=w;obtain⟨K,s1⟩:=Nq E c1;have u: ∀x:Int,-100000000<=x->x<=100000000->Rz 1 (Rat.divInt x (p.d+1)):=fun x h h'=>Rz.of (Sz.one1 (by omega) (by omega)) (Sz.one1 (by omega) (by omega)) (by omega);have hm: ∀x:Int,-32768<=x->x<=32767-> -10000000<=x*bp p.c/\x*bp p.c<=10000000:=by
  intro x h h';have h1:x*bp p.c<=32767*255:=by
   rcases kr x 0 with R|R
   ·have:=mh (show 0<= -x by omega) K;have e: -x*bp p.c= -(x*bp p.c):=Int.neg_mul _ _;omega
   ·exact qR (by omega) (by omega) K (by omega)
  have h2: -x*bp p.c<=32768*255:=by
   rcases kr 0 x with R|R
   ·have:=mh (show 0<=x by omega) K;have e: -x*bp p.c= -(x*bp p.c):=Int.neg_mul _ _;omega
   ·exact qR (by omega) (by omega) K (by omega)
  have e: -x*bp p.c= -(x*bp p.c):=Int.neg_mul _ _;omega
 have ha:=hm p.b w3 w4;have hb:=hm p.b2 W w8;have rc:Rz 1 ((p.c:Int):Rat):=Rz.int (Sz.one1 (by omega) (by omega)) (by decide);have U:(0:Rat)<=((p.c:Int):Rat):=zm.2 E;cases hs:jB ((p.c:Int):Rat) with
 |true=>
  have J:=u (p.a+p.b*bp p.c) (by omega) (by omega);have I:=u (p.a2+p.b2*bp p.c) (by omega) (by omega);exact⟨⟨Rat.divInt (p.a+p.b*bp p.c) (p.d+1),0,Rat.divInt (p.a2+p.b2*bp p.c) (p.d+1),0,0⟩,⟨J.mono (by decide),iO (by decide),I.mono (by decide),iO (by decide),iO (by decide),fun _=>⟨J.mono (by decide),I.mono (by decide)⟩,(by unfold s9;rw[if_pos ⟨rfl,rfl⟩];exact decide_eq_true rfl)⟩,VR w1 w2 w3 w4 w5 w6 W w8 E c1 w9 y hs⟩
 |false=>
  have J:=u p.b (by omega) (by omega);have I:=u p.b2 (by omega) (by omega);have k3:=u p.a (by omega) (by omega);have k4:=u p.a2 (by omega) (by omega);have hC:0<((p.c:Int):Rat):=by
   by_cases h:((p.c:Int):Rat)=0;·rw[h,PP] at hs;cases hs
   ·exact Rat.lt_of_le_of_ne U (fun g=>h g.symm)
  exact⟨⟨Rat.divInt p.a (p.d+1),rB (Rat.divInt p.b (p.d+1)) ((p.c:Int):Rat),Rat.divInt p.a2 (p.d+1),rB (Rat.divInt p.b2 (p.d+1)) ((p.c:Int):Rat),_⟩,
   ⟨k3.mono (by decide),Rz.rB (J.mono (by decide)) (by decide),k4.mono (by decide),Rz.rB (I.mono (by decide)) (by decide),Rz.zcp (Rz.cc (Rz.rC (rc.mono (by decide)) (by decide)) (Rz.rC (rc.mono (by decide)) (by decide))) (by decide),fun _=>⟨k3.mono (by decide),k4.mono (by decide)⟩,aaq hC hs⟩,VS w1 w2 w3 w4 w5 w6 W w8 E c1 w9 y hs⟩
theorem adS {p:SpD}(w:p.Wf): ∃x y:Rat,Rz 2 x/\Rz 2 y/\Ok Tryz.prog 8 [.a (cSp p)] [.a (cR x++cR y)]:=by obtain⟨w1,w2,g,u,h,w6⟩:=w;exact⟨_,_,(Rz.of (k:=1) (Sz.one1 (by omega) (by omega)) (Sz.one1 (by omega) (by omega)) (by omega)).mono (by decide),(Rz.of (k:=1) (Sz.one1 (by omega) (by omega)) (Sz.one1 (by omega) (by omega)) (by omega)).mono (by decide),adi w1 w2 g u h w6⟩
theorem agX {s:List Fm}(hs: ∀f∈s,FmB f) (ls:s.length<=9223372036854775807) (lZ:Z.length=6) (lY:Y.length=3) {p:Pt}(J:GP p) {v:Rat×Rat}(E:Rz 2 v.1) (I:Rz 2 v.2) (hO:Ok Tryz.prog 7 [.a Z] [.a (ai p)]) (hB:Ok Tryz.prog 8 [.a Y] [.a ((cR v.1++cR v.2))]) (b4:Ok Tryz.prog 6 [] [.c (.b true)]):Ok Tryz.prog 3 [.c (.s s.length (am pm s)),.a (Z),.a (Y)] [.c (.b true)]:=by
 refine cj Tryz.func3 rfl<|ac rfl (acK hs ls)<|ac rfl (b4)<|ar (aQ rfl) ?_;refine cU rfl (fun d3=>?_) (fun d3=>?_)
 ·refine ac rfl (b4) ?_;exact ah (aj aa)
 ·have hb:(bP s).2=true:=by simpa using d3
  have hA:=U7 hs;have lA:=Tv hb;refine cE 6 [] ?_;refine aq (eG (lZ) af5 rfl) ?_;refine aG rfl (hO) ?_;refine aq (eG (lY) afT rfl) ?_;refine aG rfl (hB) ?_;refine ac rfl (Cp (fun c h=>(hA c h).g.gdB) lA J.gb) ?_;refine DW.mk<|bF (ι:={n:Nat // n<=(bP s).1.length}) (fun i=>⟨101,[(7,.p 7 0),(9,.p 9 0),(10,.p 10 0),(11,.v (.c (.i .i64 (jI (bP s).1 p)))),(12,.v (.c (.i .i64 ((nt (bP s).1 p i.1:Int))))),(13,.v (.c (.b (GF (bP s).1 p i.1)))),(39,.v (.c (.s (((bP s).1).length) (am an ((bP s).1))))),(40,.v (.c (.i .i64 (((bP s).1.length:Int))))),(41,.v (.c (.i .i64 (i.1:Int))))],[(7,32,([.s (((bP s).1).length) (am an ((bP s).1))])),(9,42,ai p),(10,45,(cR v.1++cR v.2))]⟩) (fun i=>(bP s).1.length-i.1) ⟨0,eo _⟩ (al ⟨rfl,rfl,rfl,rfl,rfl,rfl,rfl,rfl,rfl,trivial⟩ ⟨rfl,rfl,rfl,trivial⟩ rfl) ?_;rintro⟨n,c0⟩;replace c0:n<=(bP s).1.length:=c0;dsimp only;refine sh ?_;refine cU rfl (fun b3=>?_) (fun b3=>?_)
  ·have R:n<(bP s).1.length:=by have:=of_decide_eq_true b3;omega
   have h:=(hA _ (aY (d:=aK) R)).g.gdB;have b8:=xM (bP s).1 p n;refine ar (eI aK ae R dr rfl)<|ar (kz ae bg rfl)<|n8 (bQ bg rfl rfl rfl (ae _) rfl rfl) ?_;refine ar (eG (ae _) bg rfl) ?_;refine ac rfl (KF h J.gb) ?_;refine jC (aQ rfl) (fun c3 d0=>?_);cases c3
   ·have o1:GF (bP s).1 p n=false:=d0;refine jC (aQ rfl) (fun c4 d2=>?_);cases c4
    ·have y:(iK ((bP s).1.getD n aK) p==0)=false:=d2;have K:false=GF (bP s).1 p (n+1):=by show _=(GF (bP s).1 p n||(iK ((bP s).1.getD n aK) p==0&&ii ((bP s).1.getD n aK) p==0));rw[o1,y];rfl
     refine cE 20 [] ?_;refine sL (aQ rfl) (fun c5 e8=>?_);cases c5
     ·have u:jX ((bP s).1.getD n aK) p=false:=by unfold jX;rw[y];rfl
      refine aq (aQ rfl)<|aq (aQ rfl)<|nM rfl<|ar (bu (by omega) rfl) ?_;exact⟨⟨n+1,R⟩,al ⟨rfl,rfl,rfl,rfl,congrArg (fun q:Nat=>some (DV.v (.c (.i .i64 (q:Int))))) (sR u).symm,congrArg (fun q:Bool=>some (DV.v (.c (.b q)))) K,rfl,rfl,rfl,trivial⟩ ⟨rfl,rfl,rfl,trivial⟩ rfl,by show(bP s).1.length-(n+1)<(bP s).1.length-n;omega⟩
     ·exact absurd e8 (by rw[y];decide)
    ·have y:(iK ((bP s).1.getD n aK) p==0)=true:=d2;have K:(ii ((bP s).1.getD n aK) p==0)=GF (bP s).1 p (n+1):=by show _=(GF (bP s).1 p n||(iK ((bP s).1.getD n aK) p==0&&ii ((bP s).1.getD n aK) p==0));rw[o1,y];rfl
     refine cE 20 [] ?_;refine sL (aQ rfl) (fun c6 e5=>?_);cases c6;·exact absurd e5 (by rw[y];decide)
     ·refine sL (aQ rfl) (fun c7 d4=>?_);cases c7
      ·have U:(ii ((bP s).1.getD n aK) p==1)=false:=d4;have u:jX ((bP s).1.getD n aK) p=false:=by unfold jX;rw[y,U];rfl
       refine aq (aQ rfl)<|nM rfl<|ar (bu (by omega) rfl) ?_;exact⟨⟨n+1,R⟩,al ⟨rfl,rfl,rfl,rfl,congrArg (fun q:Nat=>some (DV.v (.c (.i .i64 (q:Int))))) (sR u).symm,congrArg (fun q:Bool=>some (DV.v (.c (.b q)))) K,rfl,rfl,rfl,trivial⟩ ⟨rfl,rfl,rfl,trivial⟩ rfl,by show(bP s).1.length-(n+1)<(bP s).1.length-n;omega⟩
      ·have U:(ii ((bP s).1.getD n aK) p==1)=true:=d4;refine aq (eG (ae _) bg rfl)<|aG rfl (GE h) ?_;refine sL (aQ rfl) (fun c8 b5=>?_);cases c8
       ·have aV:(!((bP s).1.getD n aK).vert)=false:=b5;have u:jX ((bP s).1.getD n aK) p=false:=by unfold jX;rw[y,U,aV];rfl
        refine nM rfl<|ar (bu (by omega) rfl) ?_;exact⟨⟨n+1,R⟩,al ⟨rfl,rfl,rfl,rfl,congrArg (fun q:Nat=>some (DV.v (.c (.i .i64 (q:Int))))) (sR u).symm,congrArg (fun q:Bool=>some (DV.v (.c (.b q)))) K,rfl,rfl,rfl,trivial⟩ ⟨rfl,rfl,rfl,trivial⟩ rfl,by show(bP s).1.length-(n+1)<(bP s).1.length-n;omega⟩
       ·have aV:(!((bP s).1.getD n aK).vert)=true:=b5;refine aG rfl (mK) ?_;refine aq (bb (us:=ai (((bP s).1.getD n aK)).q) bo rfl rfl (jL _) rfl rfl) ?_;refine aG rfl (mK)<|aG rfl (OP J.gb (Mp h)) ?_;refine cU rfl (fun b0=>?_) (fun b0=>?_)
        ·have aX:decide (cx p ((bP s).1.getD n aK).q<0)=true:=b0;have u:jX ((bP s).1.getD n aK) p=true:=by unfold jX;rw[y,U,aV,aX];rfl
         refine ar (b9 (((nt (bP s).1 p n+1:Nat):Int)) ((aT (by omega) (by omega)).trans (congrArg some (by omega))) rfl)<|ar (bu (by omega) rfl) ?_;exact⟨⟨n+1,R⟩,al ⟨rfl,rfl,rfl,rfl,congrArg (fun q:Nat=>some (DV.v (.c (.i .i64 (q:Int))))) (M6 u).symm,congrArg (fun q:Bool=>some (DV.v (.c (.b q)))) K,rfl,rfl,rfl,trivial⟩ ⟨rfl,rfl,rfl,trivial⟩ rfl,by show(bP s).1.length-(n+1)<(bP s).1.length-n;omega⟩
        ·have aX:decide (cx p ((bP s).1.getD n aK).q<0)=false:=b0;have u:jX ((bP s).1.getD n aK) p=false:=by unfold jX;rw[y,U,aV,aX];rfl
         refine ar (bu (by omega) rfl) ?_;exact⟨⟨n+1,R⟩,al ⟨rfl,rfl,rfl,rfl,congrArg (fun q:Nat=>some (DV.v (.c (.i .i64 (q:Int))))) (sR u).symm,congrArg (fun q:Bool=>some (DV.v (.c (.b q)))) K,rfl,rfl,rfl,trivial⟩ ⟨rfl,rfl,rfl,trivial⟩ rfl,by show(bP s).1.length-(n+1)<(bP s).1.length-n;omega⟩
   ·have o1:GF (bP s).1 p n=true:=d0;have K:true=GF (bP s).1 p (n+1):=by show _=(GF (bP s).1 p n||(iK ((bP s).1.getD n aK) p==0&&ii ((bP s).1.getD n aK) p==0));rw[o1];rfl
    refine DL.mk<|vm (ng rfl)<|fa ?_;refine cE 20 [] ?_;refine sL (aQ rfl) (fun e6 a5=>?_);cases e6
    ·have y:(iK ((bP s).1.getD n aK) p==0)=false:=a5;have u:jX ((bP s).1.getD n aK) p=false:=by unfold jX;rw[y];rfl
     refine aq (aQ rfl)<|aq (aQ rfl)<|nM rfl<|ar (bu (by omega) rfl) ?_;exact⟨⟨n+1,R⟩,al ⟨rfl,rfl,rfl,rfl,congrArg (fun q:Nat=>some (DV.v (.c (.i .i64 (q:Int))))) (sR u).symm,congrArg (fun q:Bool=>some (DV.v (.c (.b q)))) K,rfl,rfl,rfl,trivial⟩ ⟨rfl,rfl,rfl,trivial⟩ rfl,by show(bP s).1.length-(n+1)<(bP s).1.length-n;omega⟩
    ·have y:(iK ((bP s).1.getD n aK) p==0)=true:=a5;refine sL (aQ rfl) (fun e2 a6=>?_);cases e2
     ·have U:(ii ((bP s).1.getD n aK) p==1)=false:=a6;have u:jX ((bP s).1.getD n aK) p=false:=by unfold jX;rw[y,U];rfl
      refine aq (aQ rfl)<|nM rfl<|ar (bu (by omega) rfl) ?_;exact⟨⟨n+1,R⟩,al ⟨rfl,rfl,rfl,rfl,congrArg (fun q:Nat=>some (DV.v (.c (.i .i64 (q:Int))))) (sR u).symm,congrArg (fun q:Bool=>some (DV.v (.c (.b q)))) K,rfl,rfl,rfl,trivial⟩ ⟨rfl,rfl,rfl,trivial⟩ rfl,by show(bP s).1.length-(n+1)<(bP s).1.length-n;omega⟩
     ·have U:(ii ((bP s).1.getD n aK) p==1)=true:=a6;refine aq (eG (ae _) bg rfl)<|aG rfl (GE h) ?_;refine sL (aQ rfl) (fun e4 a9=>?_);cases e4
      ·have aV:(!((bP s).1.getD n aK).vert)=false:=a9;have u:jX ((bP s).1.getD n aK) p=false:=by unfold jX;rw[y,U,aV];rfl
       refine nM rfl<|ar (bu (by omega) rfl) ?_;exact⟨⟨n+1,R⟩,al ⟨rfl,rfl,rfl,rfl,congrArg (fun q:Nat=>some (DV.v (.c (.i .i64 (q:Int))))) (sR u).symm,congrArg (fun q:Bool=>some (DV.v (.c (.b q)))) K,rfl,rfl,rfl,trivial⟩ ⟨rfl,rfl,rfl,trivial⟩ rfl,by show(bP s).1.length-(n+1)<(bP s).1.length-n;omega⟩
      ·have aV:(!((bP s).1.getD n aK).vert)=true:=a9;refine aG rfl (mK) ?_;refine aq (bb (us:=ai (((bP s).1.getD n aK)).q) bo rfl rfl (jL _) rfl rfl) ?_;refine aG rfl (mK)<|aG rfl (OP J.gb (Mp h)) ?_;refine cU rfl (fun a3=>?_) (fun a3=>?_)
       ·have aX:decide (cx p ((bP s).1.getD n aK).q<0)=true:=a3;have u:jX ((bP s).1.getD n aK) p=true:=by unfold jX;rw[y,U,aV,aX];rfl
        refine ar (b9 (((nt (bP s).1 p n+1:Nat):Int)) ((aT (by omega) (by omega)).trans (congrArg some (by omega))) rfl)<|ar (bu (by omega) rfl) ?_;exact⟨⟨n+1,R⟩,al ⟨rfl,rfl,rfl,rfl,congrArg (fun q:Nat=>some (DV.v (.c (.i .i64 (q:Int))))) (M6 u).symm,congrArg (fun q:Bool=>some (DV.v (.c (.b q)))) K,rfl,rfl,rfl,trivial⟩ ⟨rfl,rfl,rfl,trivial⟩ rfl,by show(bP s).1.length-(n+1)<(bP s).1.length-n;omega⟩
       ·have aX:decide (cx p ((bP s).1.getD n aK).q<0)=false:=a3;have u:jX ((bP s).1.getD n aK) p=false:=by unfold jX;rw[y,U,aV,aX];rfl
        refine ar (bu (by omega) rfl) ?_;exact⟨⟨n+1,R⟩,al ⟨rfl,rfl,rfl,rfl,congrArg (fun q:Nat=>some (DV.v (.c (.i .i64 (q:Int))))) (sR u).symm,congrArg (fun q:Bool=>some (DV.v (.c (.b q)))) K,rfl,rfl,rfl,trivial⟩ ⟨rfl,rfl,rfl,trivial⟩ rfl,by show(bP s).1.length-(n+1)<(bP s).1.length-n;omega⟩
  ·have hq:n=(bP s).1.length:=by have:=of_decide_eq_false b3;omega
   have b8:=xM (bP s).1 p n;refine ar (fR (r:=(nt (bP s).1 p n:Int)%2) rfl rfl (by omega) (lI (by omega)) rfl) ?_;refine cU rfl (fun a0=>?_) (fun a0=>?_)
   ·have b1:nt (bP s).1 p (bP s).1.length%2=1:=by have:=beq_iff_eq.1 a0;rw[hq] at this;omega
    refine cU rfl (fun W=>?_) (fun W=>?_)
    ·have e0:jI (bP s).1 p=0:=MS (by rw[<-hq];exact W);refine cE 15 [] ?_;refine sL (aQ rfl) (fun f0 c1=>?_);cases f0;·exact absurd c1 (by rw[e0];decide)
     ·refine aG rfl (WX (fun c h=>(hA c h).g) lA E I) ?_;refine aG rfl (fC (J.a1.m_) (J.a2.m_) (E.m_) (I.m_)) ?_;refine aG rfl (Cp (L:=(bP s).1.map (sY v)) (p:=vh v p) (fun c h=>by obtain⟨d,hd,rfl⟩:=nC.1 h;exact Lf (hA d hd).g E I) (by rw[sV];exact lA) (tX J E I))<|ah ?_;rw[show(jI ((bP s).1.map (sY v)) (vh v p)==jI (bP s).1 p)=true from beq_iff_eq.2 Ap];exact aj aa
    ·have e0:jI (bP s).1 p=1:=LW (by rw[<-hq];exact W) b1;refine cE 15 [] ?_;refine sL (aQ rfl) (fun e9 d1=>?_);cases e9;·exact absurd d1 (by rw[e0];decide)
     ·refine aG rfl (WX (fun c h=>(hA c h).g) lA E I) ?_;refine aG rfl (fC (J.a1.m_) (J.a2.m_) (E.m_) (I.m_)) ?_;refine aG rfl (Cp (L:=(bP s).1.map (sY v)) (p:=vh v p) (fun c h=>by obtain⟨d,hd,rfl⟩:=nC.1 h;exact Lf (hA d hd).g E I) (by rw[sV];exact lA) (tX J E I))<|ah ?_;rw[show(jI ((bP s).1.map (sY v)) (vh v p)==jI (bP s).1 p)=true from beq_iff_eq.2 Ap];exact aj aa
   ·have b1: ¬nt (bP s).1 p (bP s).1.length%2=1:=by have:=beq_eq_false_iff_ne.1 a0;rw[hq] at this;omega
    refine cU rfl (fun a4=>?_) (fun a4=>?_)
    ·have e0:jI (bP s).1 p=0:=MS (by rw[<-hq];exact a4);refine cE 15 [] ?_;refine sL (aQ rfl) (fun e1 c9=>?_);cases e1;·exact absurd c9 (by rw[e0];decide)
     ·refine aG rfl (WX (fun c h=>(hA c h).g) lA E I) ?_;refine aG rfl (fC (J.a1.m_) (J.a2.m_) (E.m_) (I.m_)) ?_;refine aG rfl (Cp (L:=(bP s).1.map (sY v)) (p:=vh v p) (fun c h=>by obtain⟨d,hd,rfl⟩:=nC.1 h;exact Lf (hA d hd).g E I) (by rw[sV];exact lA) (tX J E I))<|ah ?_;rw[show(jI ((bP s).1.map (sY v)) (vh v p)==jI (bP s).1 p)=true from beq_iff_eq.2 Ap];exact aj aa
    ·have e0:jI (bP s).1 p= -1:=HD (by rw[<-hq];exact a4) b1;refine cE 15 [] ?_;refine sL (aQ rfl) (fun e3 b6=>?_);cases e3;·exact absurd b6 (by rw[e0];decide)
     ·refine aG rfl (WX (fun c h=>(hA c h).g) lA E I) ?_;refine aG rfl (fC (J.a1.m_) (J.a2.m_) (E.m_) (I.m_)) ?_;refine aG rfl (Cp (L:=(bP s).1.map (sY v)) (p:=vh v p) (fun c h=>by obtain⟨d,hd,rfl⟩:=nC.1 h;exact Lf (hA d hd).g E I) (by rw[sV];exact lA) (tX J E I))<|ah ?_;rw[show(jI ((bP s).1.map (sY v)) (vh v p)==jI (bP s).1 p)=true from beq_iff_eq.2 Ap];exact aj aa
structure Pl where
 b:Nat
 z:Nat
inductive AV where
 |b (v:Bool)
 |i (k:IntKind) (n:Int)
 |l (x:Nat)
 |p (k off:Nat)
 |s (k off n lo:Nat) (ex:Bool) (m:Nat)
 |z
 |ev
 |np
 |f0 (g:FuncId)
 |fc (x y:AV)
def AV.fn:AV->Option (FuncId×List AV)
 | .f0 g=>some (g,[])
 | .fc x y=>match y.fn with
   |some (g,xs)=>some (g,x::xs)
   |none=>none
 |_=>none
inductive RdA (A Z:Nat->Prop) (w:World) (β:Nat->Pl):Value->AV->Prop
 |b (v:Bool):RdA A Z w β (.bool v) (.b v)
 |i (k:IntKind) (n:Int):RdA A Z w β (.int k n) (.i k n)
 |l (v:Value) (x:Nat):RdC Z w v (cL x)->RdA A Z w β v (.l x)
 |p (k off:Nat):A k->RdA A Z w β (.pointer (some ⟨(β k).b,off,none⟩)) (.p k off)
 |s (k off n lo:Nat) (ex:Bool) (m c:Nat):A k->n<=lo->lo<=c->c<=maxLen->(ex=true->c=lo)->off+c*m<=(β k).z->RdA A Z w β (.slice (some ⟨(β k).b,off,none⟩) n c) (.s k off n lo ex m)
 |z:RdA A Z w β (.slice none 0 0) .z
 |ev (a:Option Addr) (c:Nat):c<=maxLen->(∀ad,a=some ad->ad.spot=none)->RdA A Z w β (.slice a 0 c) .ev
 |np:RdA A Z w β (.pointer none) .np
 |f (g:FuncId) (cs:Array Value) (xs:List AV) (y:AV):y.fn=some (g,xs)->cs.size=xs.length->(∀(j:Nat) (v:Value) (x:AV),cs[j]? =some v->xs[j]? =some x->RdA A Z w β v x)->RdA A Z w β (.func (.func g) #[] cs) y
section
variable {A A' Z Z':Nat->Prop}{w w':World}{β β':Nat->Pl}
theorem RdA.mono (U:Keep Z Z' w w') (I: ∀k,A k->A' k) (u: ∀k,A k->β' k=β k) {x:AV}(h:RdA A Z w β v x):RdA A' Z' w' β' v x:=by
 induction h with
 |b v=>exact .b v
 |i k n=>exact .i k n
 |l v x h=>exact .l v x (h.keep U)
 |p k off h=>rw[<-u k h];exact .p k off (I k h)
 |s k off n lo R m c h h1 E K W J=>
  rw[<-u k h] at J⊢;exact .s k off n lo R m c (I k h) h1 E K W J
 |z=>exact .z
 |ev a c h E=>exact .ev a c h E
 |np=>exact .np
 |f g cs xs y h0 h _ ih=>exact .f g cs xs y h0 h ih
def RdAs (A Z:Nat->Prop) (w:World) (β:Nat->Pl) (vs:List Value) (xs:List AV):Prop:=vs.length=xs.length/\ ∀(j:Nat) (v:Value) (x:AV),vs[j]? =some v->xs[j]? =some x->RdA A Z w β v x
theorem RdAs.mono (I:Keep Z Z' w w') (y: ∀k,A k->A' k) (g: ∀k,A k->β' k=β k) {xs:List AV}(h:RdAs A Z w β vs xs):RdAs A' Z' w' β' vs xs:=⟨h.1,fun j v x u E=>(h.2 j v x u E).mono I y g⟩
theorem RdAs.nil:RdAs A Z w β [] []:=⟨rfl,fun j v x g=>by simp at g⟩
theorem RdAs.cons {x:AV}{xs:List AV}(h:RdA A Z w β v x) (hs:RdAs A Z w β vs xs):RdAs A Z w β (v::vs) (x::xs):=by
 refine⟨by simp[hs.1],fun j u y E g=>?_⟩;cases j with
 |zero=>simp at E g;subst E g;exact h
 |succ j=>simp at E g;exact hs.2 j u y E g
theorem RdAs.uncons {x:AV}{xs:List AV}(h:RdAs A Z w β (v::vs) (x::xs)):RdA A Z w β v x/\RdAs A Z w β vs xs:=
 ⟨h.2 0 v x rfl rfl,by have:=h.1;simpa using this,fun j u y E g=>h.2 (j+1) u y (by simpa using E) (by simpa using g)⟩
theorem RdAs.append {us us':List AV}(h:RdAs A Z w β vs us) (E:RdAs A Z w β vs' us'):RdAs A Z w β (vs++vs') (us++us'):=by
 refine⟨by simp[h.1,E.1],fun j v u y g=>?_⟩;by_cases I:j<vs.length
 ·rw[uJ I] at y;rw[uJ (by rw[<-h.1];exact I)] at g;exact h.2 j v u y g
 ·rw[tL (by omega)] at y;rw[tL (by rw[<-h.1];omega)] at g;rw[<-h.1] at g;exact E.2 _ v u y g
theorem RdAs.drop {us:List AV}(h:RdAs A Z w β vs us) (k:Nat):RdAs A Z w β (vs.drop k) (us.drop k):=
 ⟨by simp[h.1],fun j v u g y=>h.2 (k+j) v u (by simpa using g) (by simpa using y)⟩
theorem RdAs.take {us:List AV}(h:RdAs A Z w β vs us) (k:Nat):RdAs A Z w β (vs.take k) (us.take k):=by
 refine⟨by simp[h.1],fun j v u g y=>?_⟩;rw[j6] at g y;split at g;·rename_i E;rw[if_pos E] at y;exact h.2 j v u g y
 ·cases g
theorem RdC.two {u:CellD}(h:RdC Z w v u):v.cells= #[v]/\v.oneCell'=true:=by
 cases h with
 |x v g y=>cases v<;>first|exact⟨rfl,rfl⟩|exact absurd rfl (g _)|exact absurd rfl (y _)
 |e v g y=>cases v<;>first|exact⟨rfl,rfl⟩|exact absurd rfl (g _)|exact absurd rfl (y _)
 |_=>exact⟨rfl,rfl⟩
theorem RdA.one {x:AV}(h:RdA A Z w β v x):v.cells= #[v]/\v.oneCell'=true:=by
 cases h with
 |l v x h=>exact h.two
 |_=>exact⟨rfl,rfl⟩
inductive Rp where
 |e
 |c (x:AV)
 |n (ls:Nat) (pu:Bool) (l r:Rp)
def Rp.flat:Rp->List AV
 | .e=>[]
 | .c x=>[x]
 | .n _ _ l r=>l.flat++r.flat
inductive XD where
 |c (x:AV)
 |a (n:Nat) (r:Rp)
def XD.cells:XD->List AV
 | .c x=>[x]
 | .a _ r=>r.flat
inductive XV where
 |c (x:AV)
 |a (n:Nat) (r:Rp)
 |t (ds:List XD)
 |u
def RdD (A Z:Nat->Prop) (w:World) (β:Nat->Pl) (v:Value):XD->Prop
 | .c x=>RdA A Z w β v x
 | .a _ r=> ∃cs:Array Value,v=.agg cs/\RdAs A Z w β cs.toList r.flat
def RdDs (A Z:Nat->Prop) (w:World) (β:Nat->Pl) (vs:List Value) (g:List XD):Prop:=vs.length=g.length/\ ∀(j:Nat) (v:Value) (d:XD),vs[j]? =some v->g[j]? =some d->RdD A Z w β v d
def RdX2 (A Z:Nat->Prop) (w:World) (β:Nat->Pl) (v:Value):XV->Prop
 | .c x=>RdD A Z w β v (.c x)
 | .a n r=>RdD A Z w β v (.a n r)
 | .t ds=> ∃vs:Array Value,v=.tuple vs/\RdDs A Z w β vs.toList ds
 | .u=>v=undef
theorem RdD.mono (y:Keep Z Z' w w') (u: ∀k,A k->A' k) (g: ∀k,A k->β' k=β k) {d:XD}(h:RdD A Z w β v d):RdD A' Z' w' β' v d:=by
 cases d with
 |c x=>exact RdA.mono y u g h
 |a n r=>obtain⟨cs,e,h⟩:=h;exact⟨cs,e,h.mono y u g⟩
theorem RdDs.mono (J:Keep Z Z' w w') (I: ∀k,A k->A' k) (g: ∀k,A k->β' k=β k) {u:List XD}(h:RdDs A Z w β vs u):RdDs A' Z' w' β' vs u:=⟨h.1,fun j v d y E=>(h.2 j v d y E).mono J I g⟩
theorem RdX2.mono (E:Keep Z Z' w w') (y: ∀k,A k->A' k) (g: ∀k,A k->β' k=β k) {x:XV}(h:RdX2 A Z w β v x):RdX2 A' Z' w' β' v x:=by
 cases x with
 |c x=>exact RdD.mono E y g (d:=.c x) h
 |a n r=>exact RdD.mono E y g (d:=.a n r) h
 |t I=>obtain⟨vs,e,h⟩:=h;exact⟨vs,e,h.mono E y g⟩
 |u=>exact h
theorem RdDs.nil:RdDs A Z w β [] []:=⟨rfl,fun j v x g=>by simp at g⟩
theorem RdD.cells {d:XD}(h:RdD A Z w β v d):RdAs A Z w β v.cells.toList d.cells:=by
 cases d with
 |c x=>
  have h:RdA A Z w β v x:=h;rw[h.one.1];exact RdAs.cons h RdAs.nil
 |a n r=>obtain⟨cs,rfl,h⟩:=h;exact h
theorem RdAs.one {xs:List AV}(h:RdAs A Z w β vs xs): ∀v∈vs,v.oneCell'=true:=by
 intro v y;obtain⟨j,u⟩:=yI y;have g:j<xs.length:=by rw[<-h.1];exact(fb.1 u).1
 exact(h.2 j v _ u (dY g)).one.2
end
abbrev HF:=Nat->Option (TypeId×List AV)
abbrev TX:=Nat->Option XV
def Zs (V:Nat->Prop) (H:HF) (β:Nat->Pl):Nat->Prop:=fun b=>V b\/ ∃k,H k≠none/\(β k).b=b
structure Mem (V A:Nat->Prop) (H:HF) (β:Nat->Pl) (w:World):Prop where
 vlt: ∀b,V b->b<w.heap.size
 dom: ∀k,H k≠none->A k
 lt: ∀k,A k->(β k).b<w.heap.size
 inj: ∀k l,H k≠none->H l≠none->(β k).b=(β l).b->k=l
 clr: ∀k,H k≠none-> ¬V (β k).b
 box: ∀k U cs,H k=some (U,cs)-> ∃vs:Array Value,w.heap[(β k).b]? =some (.cells vs U (0,0))/\vs.size=(β k).z/\cs.length<=vs.size/\RdAs A (Zs V H β) w β (vs.toList.take cs.length) cs
def Ad (A:Nat->Prop) (N N':Nat):Nat->Prop:=fun k=>A k\/(N<=k/\k<N')
structure Hst (N N':Nat) (A:Nat->Prop) (H:HF) (β:Nat->Pl) (w:World) (H':HF) (β':Nat->Pl) (w':World):Prop where
 os:w'.os=w.os
 tape:w'.tape=w.tape
 output:w'.output=w.output
 size:w.heap.size<=w'.heap.size
 blk: ∀b,b<w.heap.size->(∀k,H k≠none->(β k).b≠b)->w'.heap[b]? =w.heap[b]?
 same: ∀k,A k->β' k=β k
 own: ∀k,H' k≠none->w.heap.size<=(β' k).b\/ ∃l,H l≠none/\(β l).b=(β' k).b
 nam: ∀k,H' k≠none->H k≠none\/(N<=k/\k<N')
section
variable {V A A':Nat->Prop}{H H' H2:HF}{β β' β2:Nat->Pl}{w w' w2:World}{N N' N2:Nat}
theorem Hst.refl:Hst N N' A H β w H β w:=
 ⟨rfl,rfl,rfl,bd _,fun _ _ _=>rfl,fun _ _=>rfl,fun k g=>.inr ⟨k,g,rfl⟩,fun _ h=>.inl h⟩
theorem Hst.wide (h:Hst N N' A H β w H' β' w') (y:M<=N) (E:N'<=M'):Hst M M' A H β w H' β' w':=
 ⟨h.os,h.tape,h.output,h.size,h.blk,h.same,h.own,fun k u=>(h.nam k u).imp id fun g=>⟨Nat.le_trans y g.1,kE g.2 E⟩⟩
theorem Hst.keep (_I:Mem V A H β w) (h:Hst N N' A H β w H' β' w'):Keep (Zs V H β) (Zs V H' β') w w':=by
 refine⟨h.size,fun b E u=>h.blk b E (fun k y e=>u (.inr ⟨k,y,e⟩)),fun b E u=>?_⟩;rcases u with u|⟨k,y,e⟩;·exact .inl u
 ·rcases h.own k y with g|⟨l,hl,g⟩;·omega
  ·exact .inr ⟨l,hl,g.trans e⟩
theorem Hst.trans (h:Hst M M' A H β w H' β' w') (K: ∀k,A k->A' k) (y:Hst M M' A' H' β' w' H2 β2 w2):Hst M M' A H β w H2 β2 w2:=by
 refine⟨y.os.trans h.os,y.tape.trans h.tape,y.output.trans h.output,fw h.size y.size,fun b I E=>?_,fun k u=>(y.same k (K k u)).trans (h.same k u),fun k u=>?_,fun k u=>?_⟩
 ·rw[y.blk b (kE I h.size) (fun k u e=>?_),h.blk b I E];rcases h.own k u with g|⟨l,hl,g⟩;·omega
  ·exact E l hl (g.trans e)
 ·rcases y.own k u with g|⟨l,hl,g⟩;·exact .inl (fw h.size g)
  ·rcases h.own l hl with q|⟨m,J,q⟩;·exact .inl (by rw[<-g];exact q)
   ·exact .inr ⟨m,J,q.trans g⟩
 ·rcases y.nam k u with g|g;·exact h.nam k g
  ·exact .inr g
theorem Mem.sub (u:Mem V A H β w) (hs: ∀k c,H2 k=some c->H k=some c):Mem V A H2 β w:=by
 have y: ∀k,H2 k≠none->H k≠none:=fun k g=>by
  cases e:H2 k with
  |none=>exact absurd e g
  |some c=>rw[hs k c e];simp
 refine⟨u.vlt,fun k g=>u.dom k (y k g),u.lt,fun k l g hl=>u.inj k l (y k g) (y l hl),fun k g=>u.clr k (y k g),fun k U cs g=>?_⟩;obtain⟨vs,K,R,I,J⟩:=u.box k U cs (hs k _ g);exact⟨vs,K,R,I,J.mono ⟨Nat.le_refl _,fun _ _ _=>rfl,fun b _ E=>E.imp id fun⟨l,hl,e⟩=>⟨l,y l hl,e⟩⟩ (fun _ h=>h) (fun _ _=>rfl)⟩
def Vx (V:Nat->Prop) (H g:HF) (β:Nat->Pl):Nat->Prop:=fun b=>V b\/ ∃k,H k≠none/\g k=none/\(β k).b=b
theorem XW {g:HF}(hs: ∀k c,g k=some c->H k=some c):Zs (Vx V H g β) g β=Zs V H β:=by
 funext b;refine propext ⟨?_,?_⟩
 ·rintro((h|⟨k,E,_,y⟩)|⟨k,u,e⟩);·exact .inl h
  ·exact .inr ⟨k,E,y⟩
  ·refine .inr ⟨k,?_,e⟩;cases q:g k with
   |none=>exact absurd q u
   |some c=>rw[hs k c q];simp
 ·rintro(h|⟨k,u,e⟩);·exact .inl (.inl h)
  ·by_cases q:g k=none;·exact .inl (.inr ⟨k,u,q,e⟩)
   ·exact .inr ⟨k,q,e⟩
theorem Mem.see {y:HF}(h:Mem V A H β w) (hs: ∀k c,y k=some c->H k=some c):Mem (Vx V H y β) A y β w:=by
 have u: ∀k,y k≠none->H k≠none:=fun k g=>by
  cases e:y k with
  |none=>exact absurd e g
  |some c=>rw[hs k c e];simp
 refine⟨fun b I=>?_,fun k g=>h.dom k (u k g),h.lt,fun k l g hl=>h.inj k l (u k g) (u l hl),fun k g E=>?_,fun k U cs g=>?_⟩
 ·rcases I with I|⟨k,g,_,e⟩;·exact h.vlt b I
  ·rw[<-e];exact h.lt k (h.dom k g)
 ·rcases E with E|⟨l,K,R,J⟩;·exact h.clr k (u k g) E
  ·have:=h.inj l k K (u k g) J;subst this;exact g R
 ·rw[XW hs];exact h.box k U cs (hs k _ g)
def gU (H h g:HF):HF:=fun k=>match g k,h k with
 |some c,_=>some c
 |none,some _=>none
 |none,none=>H k
theorem yM {y g:HF}{c}(h:gU H y g k=some c):g k=some c\/(g k=none/\y k=none/\H k=some c):=by
 unfold gU at h;cases u:g k with
 |some d=>rw[u] at h;exact .inl h
 |none=>
  cases E:y k with
  |some d=>rw[u,E] at h;cases h
  |none=>rw[u,E] at h;exact .inr ⟨rfl,rfl,h⟩
theorem og {h g:HF}:gU H h g k≠none↔(g k≠none\/(h k=none/\H k≠none)):=by unfold gU;cases g k<;>cases h k<;>simp
theorem frame {R y:HF}(J:Mem V A H β w) (hs: ∀k c,R k=some c->H k=some c) (hf: ∀k,A k-> ¬(N<=k/\k<N'))
 (h1: ∀k,A k->A' k) (K:Mem (Vx V H R β) A' y β' w') (u:Hst N N' A R β w y β' w'):Mem V A' (gU H R y) β' w'/\Hst N N' A H β w (gU H R y) β' w'/\Zs V (gU H R y) β'=Zs (Vx V H R β) y β':=by
 have hn: ∀k,R k≠none->H k≠none:=fun k I=>by
  cases e:R k with
  |none=>exact absurd e I
  |some c=>rw[hs k c e];simp
 have a1: ∀k,R k=none->H k≠none->y k=none:=by
  intro k h1 h2;apply jZ;intro h3;rcases u.nam k h3 with g|g;·exact g h1
  ·exact hf k (J.dom k h2) g
 have hZ:Zs V (gU H R y) β'=Zs (Vx V H R β) y β':=by
  funext b;refine propext ⟨?_,?_⟩
  ·rintro(h|⟨k,I,e⟩);·exact .inl (.inl h)
   ·rcases og.1 I with g|⟨g1,E⟩;·exact .inr ⟨k,g,e⟩
    ·exact .inl (.inr ⟨k,E,g1,by rw[<-u.same k (J.dom k E)];exact e⟩)
  ·rintro((h|⟨k,h1,h2,h3⟩)|⟨k,I,e⟩);·exact .inl h
   ·exact .inr ⟨k,og.2 (.inr ⟨h2,h1⟩),by rw[u.same k (J.dom k h1)];exact h3⟩
   ·exact .inr ⟨k,og.2 (.inl I),e⟩
 have hH:Hst N N' A H β w (gU H R y) β' w':=by
  refine⟨u.os,u.tape,u.output,u.size,fun b hb hz=>u.blk b hb (fun k I=>hz k (hn k I)),u.same,fun k I=>?_,fun k I=>?_⟩
  ·rcases og.1 I with g|⟨g1,E⟩
   ·rcases u.own k g with q|⟨l,hl,q⟩;·exact .inl q
    ·exact .inr ⟨l,hn l hl,q⟩
   ·exact .inr ⟨k,E,by rw[u.same k (J.dom k E)]⟩
  ·rcases og.1 I with g|⟨_,E⟩;·exact(u.nam k g).imp (hn k) id
   ·exact .inl E
 refine⟨⟨fun b hb=>kE (J.vlt b hb) u.size,fun k I=>?_,K.lt,fun k l I hl e=>?_,fun k I hv=>?_,fun k U cs I=>?_⟩,hH,hZ⟩
 ·rcases og.1 I with g|⟨_,E⟩
  ·exact K.dom k g
  ·exact h1 _ (J.dom k E)
 ·rcases og.1 I with g|⟨g1,E⟩<;>rcases og.1 hl with q|⟨q1,q2⟩
  ·exact K.inj k l g q e
  ·exact absurd (.inr ⟨l,q2,q1,by rw[<-u.same l (J.dom l q2)];exact e.symm⟩) (K.clr k g)
  ·exact absurd (.inr ⟨k,E,g1,by rw[<-u.same k (J.dom k E)];exact e⟩) (K.clr l q)
  ·rw[u.same k (J.dom k E),u.same l (J.dom l q2)] at e
   exact J.inj k l E q2 e
 ·rcases og.1 I with g|⟨_,E⟩
  ·exact K.clr k g (.inl hv)
  ·rw[u.same k (J.dom k E)] at hv
   exact J.clr k E hv
 ·rw[hZ]
  rcases yM I with g|⟨_,E,g3⟩
  ·exact K.box k U cs g
  ·obtain⟨vs,e1,h2,h3,h4⟩:=J.box k U cs g3
   have hA:A k:=J.dom k (by rw[g3];simp)
   have W:=u.same k hA
   refine⟨vs,?_,by rw[W];exact h2,h3,?_⟩
   ·rw[W,u.blk _ (J.lt k hA) (fun l hl e=>?_)]
    ·exact e1
    ·have:=J.inj l k (hn l hl) (by rw[g3];simp) e
     subst this
     exact hl E
   ·have a0:=hH.keep J
    rw[hZ] at a0
    exact h4.mono a0 h1 u.same
end
structure StX (V A:Nat->Prop) (n:Nat) (T:TX) (H:HF) (β:Nat->Pl) (a:Act) (w:World):Prop where
 mem:Mem V A H β w
 dfr:a.defers=[]
 siz:a.tmps.size=n
 tmp: ∀t x,T t=some x-> ∃v,a.tmps[t]? =some v/\RdX2 A (Zs V H β) w β v x
def yN (A Z:Nat->Prop) (w:World) (β:Nat->Pl) (L:Nat->Prop) (T:TX) (a:Act):Prop:= ∀t x,L t->T t=some x-> ∃v,a.tmps[t]? =some v/\RdX2 A Z w β v x
structure Evt where
 x:XV
 Hv:HF
 Hv':HF
 N:Nat
 N':Nat
def F2 (d:Option Nat) (x:XV) (T:TX):TX:=fun t=>if d=some t then some x else T t
section
variable {P:Program}{ops:Array Oper}{o:Oper}{T Tl:TX}{e:Evt}{V A:Nat->Prop}{n:Nat}{H:HF}{β:Nat->Pl}{a:Act}{w:World}
def Tt (P:Program) (ops:Array Oper) (o:Oper) (T:TX) (e:Evt):Prop:= ∀V A β a w,(∀k,A k-> ¬(e.N<=k/\k<e.N'))->Mem V A e.Hv β w->yN A (Zs V e.Hv β) w β (d6 ops o) T a->
 wx o ops a=true/\Gives P o a w fun v w'=> ∃A' β',(∀k,A k->A' k)/\(∀k,A' k->Ad A e.N e.N' k)/\Mem V A' e.Hv' β' w'/\Hst e.N e.N' A e.Hv β w e.Hv' β' w'/\RdX2 A' (Zs V e.Hv' β') w' β' v e.x
def GX (ops:Array Oper) (o:Oper) (T:TX) (e:Evt):Prop:=e.x=.u/\e.Hv'=e.Hv/\ ∀V A β a w,yN A (Zs V e.Hv β) w β (d6 ops o) T a->wx o ops a=false
theorem StX.step (g:StX V A n T H β a w) (I:Tt P ops o Tl e\/GX ops o Tl e) (hT: ∀t x,d6 ops o t->Tl t=some x->T t=some x) (hv: ∀k c,e.Hv k=some c->H k=some c)
 (hf: ∀k,A k-> ¬(e.N<=k/\k<e.N')) (hd: ∀t,o.dst=some t->t<n) {Q:Exit->Act->World->Prop}{K:Act->World->Prop}
 (hK: ∀A' β' a' w',(∀k,A k->A' k)->(∀k,A' k->Ad A e.N e.N' k)->Hst e.N e.N' A H β w (gU H e.Hv e.Hv') β' w'->StX V A' n (F2 o.dst e.x T) (gU H e.Hv e.Hv') β' a' w'->K a' w'):
 if Region.wanted o (yielded ops a.tmps) then o.wp P a w K Q\/(o.asks P a w/\LetsOut Q) else K (a.put o.dst undef) w:=by
 have W:yN A (Zs (Vx V H e.Hv β) e.Hv β) w β (d6 ops o) Tl a:=by rw[XW hv];exact fun t x hl U=>g.tmp t x (hT t x hl U)
 rcases I with I|⟨U,hH,I⟩
 ·obtain⟨hw,hg⟩:=I (Vx V H e.Hv β) A β a w hf (g.mem.see hv) W
  rw[if_pos hw]
  refine .inl (hg.wp fun v w' ⟨A',β',R,a0,hm,hh,U⟩=>?_)
  obtain⟨a1,J,hZ⟩:=frame g.mem hv hf R hm hh
  refine hK A' β' _ _ R a0 J ⟨a1,by rw[o4];exact g.dfr,by rw[tq];exact g.siz,fun t x E=>?_⟩
  unfold F2 at E
  split at E
  ·rename_i y
   injection E with E
   subst E
   rw[y]
   exact⟨v,uy (by rw[g.siz];exact hd t y),by rw[hZ];exact U⟩
  ·rename_i y
   obtain⟨u,e1,hr⟩:=g.tmp t x E
   exact⟨u,(rn y).trans e1,hr.mono (J.keep g.mem) R J.same⟩
 ·have hw:=I _ A β a w W
  unfold wx at hw
  rw[if_neg (by rw[hw];simp)]
  have hp:gU H e.Hv e.Hv'=H:=by
   rw[hH];funext k;unfold gU;cases h:e.Hv k with
   |none=>rfl
   |some c=>exact(hv k c h).symm
  refine hK A β _ _ (fun _ h=>h) (fun _ h=>.inl h) (by rw[hp];exact Hst.refl) ?_
  rw[hp]
  refine⟨g.mem,by rw[o4];exact g.dfr,by rw[tq];exact g.siz,fun t x E=>?_⟩
  unfold F2 at E
  split at E
  ·rename_i y
   injection E with E
   subst E
   rw[y,U]
   exact⟨undef,uy (by rw[g.siz];exact hd t y),rfl⟩
  ·rename_i y
   obtain⟨u,e1,hr⟩:=g.tmp t x E
   exact⟨u,(rn y).trans e1,hr⟩
inductive Prec (ops:Array Oper):Nat->Nat->Prop
 |one {i j:Nat}{o:Oper}:ops[i]? =some o->j∈bL o->Prec ops j i
 |tr {i j k:Nat}:Prec ops j k->Prec ops k i->Prec ops j i
theorem Prec.down {listed:Array Bool}(y: ∀i o j,listed.getD i false=true->ops[i]? =some o->j∈bL o->listed.getD j false=true) (h:Prec ops j i):listed.getD i false=true->listed.getD j false=true:=by
 induction h with
 |one E I=>exact fun hi=>y _ _ _ hi E I
 |tr _ _ g u=>exact fun hi=>g (u hi)
theorem Prec.last (h:Prec ops j i): ∃k o,ops[i]? =some o/\k∈bL o/\(j=k\/Prec ops j k):=by
 induction h with
 |one g I=>exact⟨_,_,g,I,.inl rfl⟩
 |tr y _ _ u=>
  obtain⟨k,o,g,E,h⟩:=u;rcases h with rfl|h;·exact⟨_,o,g,E,.inr y⟩
  ·exact⟨k,o,g,E,.inr (y.tr h)⟩
def P7 (d:Option Nat) (e:Evt):Nat->Option (Option XV):=fun t=>if d=some t then some (some e.x) else none
open Classical in
def uH (e:Evt):Nat->Option (Option (TypeId×List AV)):=fun k=>if e.Hv' k=e.Hv k then none else some (e.Hv' k)
def wm (l:List Oper) (es:List Evt):=List.zipWith (fun(o:Oper) e=>P7 o.dst e) l es
def AB (es:List Evt):=es.map uH
theorem acD (h:uH e k≠none):e.Hv' k≠e.Hv k:=by intro q;apply h;unfold uH;rw[if_pos q]
theorem Zc (h:e.Hv' k≠e.Hv k):uH e k=some (e.Hv' k):=by unfold uH;rw[if_neg h]
theorem PJ {y:Type}(f:Oper->Evt->y) {l:List Oper}{es:List Evt}{u:y}(h:(List.zipWith f l es)[j]? =some u): ∃o e,l[j]? =some o/\es[j]? =some e/\u=f o e:=by
 rw[List.getElem?_zipWith] at h;cases g:l[j]? with
 |none=>rw[g] at h;cases h
 |some o=>
  cases E:es[j]? with
  |none=>rw[g,E] at h;cases h
  |some e=>rw[g,E] at h;simp at h;exact⟨o,e,rfl,rfl,h.symm⟩
theorem Ns {Q:Exit->Act->World->Prop}(f3: ∀(i:Nat) (o:Oper) (j:Nat),ops[i]? =some o->j∈bL o->j<i) (g7: ∀(i:Nat) (o:Oper) (t:Nat),ops[i]? =some o->o.dst=some t->t<n)
 (pre:Nat->Nat->Prop) (a9: ∀j i,pre j i->Prec ops j i)
 (b5: ∀(j i:Nat) (oj oi:Oper),j<i-> ¬pre j i->ops[j]? =some oj->ops[i]? =some oi->(∀d,oj.dst=some d->d∉oi.looksAt ops/\oi.dst≠some d)/\ ∀d,oi.dst=some d->d∉oj.looksAt ops)
 {es:List Evt}(f0:es.length=ops.size) {T0:TX}{H0:HF}{N0 Nn:Nat}{A0:Nat->Prop}{β0:Nat->Pl}{w0:World}
 (d3: ∀(i:Nat) (o:Oper) (e:Evt),ops[i]? =some o->es[i]? =some e-> ∃Tl,(Tt P ops o Tl e\/GX ops o Tl e)/\(∀t x,d6 ops o t->Tl t=some x->gN (fun j=>decide (j<i)) 0 (wm ops.toList es) T0 t=some x)/\
  ∀k c,e.Hv k=some c->gN (fun j=>decide (j<i)) 0 (AB es) H0 k=some c)
 (hN: ∀(i:Nat) (e:Evt),es[i]? =some e->N0<=e.N/\e.N'<=Nn) (e4: ∀(j i:Nat) (g ei:Evt),j<i->es[j]? =some g->es[i]? =some ei->g.N'<=ei.N)
 (a0: ∀(j i:Nat) (g ei:Evt),j<i-> ¬pre j i->es[j]? =some g->es[i]? =some ei-> ∀k,(g.Hv' k≠g.Hv k->ei.Hv k=none/\ei.Hv' k=none)/\(ei.Hv' k≠ei.Hv k->g.Hv k=none/\g.Hv' k=none))
 (_i4:N0<=Nn) (h6: ∀k,A0 k-> ¬(N0<=k/\k<Nn))
 (hQ: ∀A β a w,(∀k,A0 k->A k)->(∀k,A k->Ad A0 N0 Nn k)->Hst N0 Nn A0 H0 β0 w0 (gN (fun _=>true) 0 (AB es) H0) β w->StX V A n (gN (fun _=>true) 0 (wm ops.toList es) T0) (gN (fun _=>true) 0 (AB es) H0) β a w->Q .normal a w):
 ∀(fuel:Nat) (listed:Array Bool) (A:Nat->Prop) (β:Nat->Pl) (a:Act) (w:World),listed.size=ops.size->KR listed<=fuel->
  (∀i o j,listed.getD i false=true->ops[i]? =some o->j∈bL o->listed.getD j false=true)->
  (∀k,A0 k->A k)->(∀k,A k->A0 k\/ ∃(j:Nat) (e:Evt),listed.getD j false=true/\es[j]? =some e/\e.N<=k/\k<e.N')->
  Hst N0 Nn A0 H0 β0 w0 (gN (fun j=>listed.getD j false) 0 (AB es) H0) β w->
  StX V A n (gN (fun j=>listed.getD j false) 0 (wm ops.toList es) T0) (gN (fun j=>listed.getD j false) 0 (AB es) H0) β a w->wpAny P .any ops Q fuel listed a w:=by
 have c1: ∀ {t j:Nat}{u},(wm ops.toList es)[j]? =some u->u t≠none-> ∃oj g,ops[j]? =some oj/\es[j]? =some g/\oj.dst=some t/\u=P7 oj.dst g:=by
  intro t j u y K;obtain⟨oj,g,I,W,rfl⟩:=PJ _ y;refine⟨oj,g,by rw[kj] at I;exact I,W,?_,rfl⟩;unfold P7 at K;split at K;·assumption
  ·exact absurd rfl K
 have c6: ∀ {k j:Nat}{u},(AB es)[j]? =some u->u k≠none-> ∃g,es[j]? =some g/\g.Hv' k≠g.Hv k/\u=uH g:=by
  intro k j u y K;unfold AB at y;rw[lu] at y;cases h:es[j]? with
  |none=>rw[h] at y;cases y
  |some g=>rw[h] at y;injection y with y;subst y;exact⟨g,rfl,acD K,rfl⟩
 have i2: ∀ {j:Nat}{e:Evt},es[j]? =some e-> ∃o,ops[j]? =some o:=by
  intro j e h;have:j<ops.size:=by rw[<-f0];exact(fb.1 h).1
  exact⟨ops[j],qS this⟩
 have c7: ∀(listed:Array Bool) (A:Nat->Prop) (β:Nat->Pl) (a:Act) (w:World),(∀i,i<ops.size->listed.getD i false=true)->(∀k,A0 k->A k)->
  (∀k,A k->A0 k\/ ∃(j:Nat) (e:Evt),listed.getD j false=true/\es[j]? =some e/\e.N<=k/\k<e.N')->
  Hst N0 Nn A0 H0 β0 w0 (gN (fun j=>listed.getD j false) 0 (AB es) H0) β w->
  StX V A n (gN (fun j=>listed.getD j false) 0 (wm ops.toList es) T0) (gN (fun j=>listed.getD j false) 0 (AB es) H0) β a w->Q .normal a w:=by
  intro listed A β a w hl a5 a6 hh a2
  have e1:gN (fun j=>listed.getD j false) 0 (wm ops.toList es) T0=gN (fun _=>true) 0 (wm ops.toList es) T0:=by funext t;refine ew _ _ _ _ rfl fun j u y K=>?_;obtain⟨oj,g,I,_⟩:=c1 y K;rw[dt];exact hl j (ll.1 I).1
  have e2:gN (fun j=>listed.getD j false) 0 (AB es) H0=gN (fun _=>true) 0 (AB es) H0:=by funext t;refine ew _ _ _ _ rfl fun j u y K=>?_;obtain⟨g,I,_⟩:=c6 y K;rw[dt];exact hl j (by rw[<-f0];exact(fb.1 I).1)
  rw[e2] at hh
  rw[e1,e2] at a2
  refine hQ A β a w a5 (fun k J=>?_) hh a2
  rcases a6 k J with h|⟨j,e,_,W,_,h4⟩
  ·exact .inl h
  ·have:=hN j e W;exact .inr ⟨by omega,by omega⟩
 intro fuel
 induction fuel with
 |zero=>
  intro listed A β a w d0 K c0 a5 a6 hh a2
  have hl: ∀i,i<ops.size->listed.getD i false=true:=fun i hi=>by
   cases h:listed.getD i false with
   |true=>rfl
   |false=>have:=xE (listed:=listed) (i:=i) (by omega) (by rw[kP (by omega) true false];exact h);omega
  refine wpAny_done ?_ (c7 listed A β a w hl a5 a6 hh a2) 0
  refine List.eq_nil_iff_forall_not_mem.2 fun j y=>?_
  obtain⟨h0,o,ho,_⟩:=mem_ready.1 y
  have g6:=(ll.1 ho).1
  rw[kP (by omega) true false,hl j g6] at h0
  cases h0
 |succ fuel ih=>
  intro listed A β a w d0 K c0 a5 a6 hh a2
  refine⟨fun hr=>?_,fun i hi=>?_⟩
  ·refine c7 listed A β a w ?_ a5 a6 hh a2
   intro i
   induction i using Nat.strongRecOn with
   |_ i i0=>
    intro hi
    cases h:listed.getD i false with
    |true=>rfl
    |false=>
     exfalso
     have:i∈Region.ready .any ops listed:=by refine mem_ready.2 ⟨by rw[kP (by omega) true false];exact h,ops[i],qS hi,fun e he hb=>?_⟩;have b4:=f3 i ops[i] e.on (qS hi) (uh he hb);exact i0 e.on b4 (by omega)
     rw[hr] at this;cases this
  ·obtain⟨g3,o,ho,g0⟩:=mem_ready.1 hi
   have h8:i<ops.size:=(ll.1 ho).1
   have b6:listed.getD i false=false:=by rw[kP (by omega) false true];exact g3
   obtain⟨e,he⟩: ∃e,es[i]? =some e:=⟨es[i]'(by omega),dY (by omega)⟩
   have f4: ∀j,Prec ops j i->listed.getD j false=true:=by
    intro j y;obtain⟨k,o',b8,J,h⟩:=y.last;rw[ho] at b8;injection b8 with b8;subst b8;obtain⟨ed,i1,hb,rfl⟩:=i7 J;have I:=g0 ed i1 hb;rcases h with rfl|h;·exact I
    ·exact h.down c0 I
   have b3: ∀j,Prec ops i j->listed.getD j false=false:=by
    intro j y;cases h:listed.getD j false with
    |false=>rfl
    |true=>have:=y.down c0 h;rw[b6] at this;cases this
   obtain⟨Tl,h9,g5,e9⟩:=d3 i o e ho he
   have a4: ∀(j:Nat),(j<i->pre j i)->(i<j->pre i j)->listed.getD j false=decide (j<i):=by
    intro j I W;rcases Nat.lt_trichotomy j i with h|h|h;·rw[f4 j (a9 j i (I h))];simp[h]
    ·subst h;rw[b6];simp
    ·rw[b3 j (a9 i j (W h))];simp;omega
   have c5: ∀k,A k-> ¬(e.N<=k/\k<e.N'):=by
    intro k J ⟨g1,g2⟩;rcases a6 k J with h|⟨j,g,I,W,h3,h4⟩;·have:=h6 k h;have:=hN i e he;omega
    ·rcases Nat.lt_trichotomy j i with h|h|h;·have:=e4 j i g e h W he;omega
     ·subst h;rw[b6] at I;cases I
     ·have:=e4 i j e g h he W;omega
   have U: ∀j,(listed.setIfInBounds i true).getD j false=if j=i then true else listed.getD j false:=by
    intro j;by_cases b0:j=i;·subst b0;simp[Array.getD,d0,h8]
    ·rw[if_neg b0,getD_set_ne false (fun e=>b0 e.symm)]
   have f2:(AB es)[i]? =some (uH e):=by unfold AB;rw[lu,he];rfl
   have f1:(wm ops.toList es)[i]? =some (P7 o.dst e):=by unfold wm;rw[List.getElem?_zipWith,kj,ho,he]
   unfold wpOp
   rw[ho]
   refine a2.step h9 ?_ ?_ c5 (fun t ht=>g7 i o t ho ht) ?_
   ·intro t x d1 hx
    rw[<-g5 t x d1 hx]
    refine ew _ _ _ _ rfl fun j u y K=>?_
    obtain⟨oj,g,R,_,b1,_⟩:=c1 y K
    rw[dt]
    refine a4 j (fun h=>?_) (fun h=>?_)
    ·apply jZ
     intro hp
     exact((b5 j i oj o h hp R ho).1 t b1).1 d1
    ·apply jZ
     intro hp
     exact(b5 i j o oj h hp ho R).2 t b1 d1
   ·intro k c J
    rw[<-e9 k c J]
    refine ew _ _ _ _ rfl fun j u y K=>?_
    obtain⟨g,a1,E,_⟩:=c6 y K
    rw[dt]
    refine a4 j (fun h=>?_) (fun h=>?_)
    ·apply jZ
     intro hp
     rw[((a0 j i g e h hp a1 he k).1 E).1] at J;cases J
    ·apply jZ
     intro hp
     rw[((a0 i j e g h hp he a1 k).2 E).1] at J;cases J
   ·intro A' β' a' w' e3 d4 e5 c8
    have eT:F2 o.dst e.x (gN (fun j=>listed.getD j false) 0 (wm ops.toList es) T0)=gN (fun j=>(listed.setIfInBounds i true).getD j false) 0 (wm ops.toList es) T0:=by
     funext t;unfold F2;split
     ·rename_i c3;symm;refine x6 (u:=P7 o.dst e) _ _ _ i f1 (by unfold P7;rw[if_pos c3]) (by rw[dt,U,if_pos rfl]) ?_;intro j' u' d2 b4 a3;apply jZ;intro c9;obtain⟨oj,g,R,_,b1,_⟩:=c1 d2 c9;rw[dt,U,if_neg (by omega)] at a3;by_cases hp:pre i j';·rw[b3 j' (a9 i j' hp)] at a3;cases a3
      ·exact((b5 i j' o oj b4 hp ho R).1 t c3).2 b1
     ·rename_i c3;symm;refine ew _ _ _ _ rfl fun j u y K=>?_;obtain⟨oj,g,R,_,b1,_⟩:=c1 y K;rw[dt,U,if_neg];intro q;subst q;rw[ho] at R;injection R with R;subst R
      exact c3 b1
    have e6: ∀k c,e.Hv k=some c->gN (fun j=>listed.getD j false) 0 (AB es) H0 k=some c:=by
     intro k c J;rw[<-e9 k c J];refine ew _ _ _ _ rfl fun j u y K=>?_;obtain⟨g,a1,E,_⟩:=c6 y K;rw[dt];refine a4 j (fun h=>?_) (fun h=>?_)
     ·apply jZ;intro hp;rw[((a0 j i g e h hp a1 he k).1 E).1] at J;cases J
     ·apply jZ;intro hp;rw[((a0 i j e g h hp he a1 k).2 E).1] at J;cases J
    have eH:gU (gN (fun j=>listed.getD j false) 0 (AB es) H0) e.Hv e.Hv'=gN (fun j=>(listed.setIfInBounds i true).getD j false) 0 (AB es) H0:=by
     funext k;by_cases E:e.Hv' k=e.Hv k
     ·have g4:uH e k=none:=by unfold uH;rw[if_pos E]
      have I:gN (fun j=>(listed.setIfInBounds i true).getD j false) 0 (AB es) H0 k=gN (fun j=>listed.getD j false) 0 (AB es) H0 k:=by
       refine ew _ _ _ _ rfl fun j u y K=>?_;rw[dt,U,if_neg];intro q;subst q;rw[f2] at y;injection y with y;subst y
       exact K g4
      rw[I];unfold gU;rw[E];cases W:e.Hv k with
      |none=>rfl
      |some c=>exact(e6 k c W).symm
     ·have I:gN (fun j=>(listed.setIfInBounds i true).getD j false) 0 (AB es) H0 k=e.Hv' k:=by
       refine x6 (u:=uH e) _ _ _ i f2 (Zc E) (by rw[dt,U,if_pos rfl]) ?_;intro j' u' d2 b4 a3;apply jZ;intro c9;obtain⟨g,a1,g8,_⟩:=c6 d2 c9;rw[dt,U,if_neg (by omega)] at a3;by_cases hp:pre i j';·rw[b3 j' (a9 i j' hp)] at a3;cases a3
       ·obtain⟨q1,q2⟩:=(a0 i j' e g b4 hp he a1 k).1 E;exact g8 (by rw[q1,q2])
      rw[I]
      unfold gU
      cases W:e.Hv' k with
      |some c=>rfl
      |none=>
       cases h3:e.Hv k with
       |some c=>rfl
       |none=>exact absurd (W.trans h3.symm) E
    rw[eT,eH] at c8
    rw[eH] at e5
    refine ih (listed.setIfInBounds i true) A' β' a' w' (by simpa using d0) (by have:=AO (listed:=listed) (i:=i) (by omega) g3;omega) ?_ (fun k J=>e3 k (a5 k J)) ?_ (hh.trans a5 (e5.wide (hN i e he).1 (hN i e he).2)) c8
    ·intro i' o' j' I W h3
     rw[U] at I⊢
     by_cases b0:j'=i
     ·rw[if_pos b0]
     ·rw[if_neg b0]
      by_cases e8:i'=i
      ·subst e8
       rw[ho] at W
       injection W with W
       subst W
       obtain⟨e',h5,h7,rfl⟩:=i7 h3
       exact g0 e' h5 h7
      ·rw[if_neg e8] at I
       exact c0 i' o' j' I W h3
    ·intro k J
     rcases d4 k J with h|h
     ·rcases a6 k h with q|⟨j,g,q1,q2,q3⟩
      ·exact .inl q
      ·refine .inr ⟨j,g,?_,q2,q3⟩
       rw[U];split
       ·rfl
       ·exact q1
     ·exact .inr ⟨i,e,by rw[U,if_pos rfl],he,h⟩
end
section
variable {α β:Type}
def oO (x:Option α) (f:α->Option β):Option β:=@Option.rec α (fun _=>Option β) none f x
def bT (b:Bool) (x:Option β):Option β:=@Bool.rec (fun _=>Option β) none x b
def bI (b:Bool) (x y:β):β:=@Bool.rec (fun _=>β) y x b
end
def bA (a b:Bool):Bool:=@Bool.rec (fun _=>Bool) false b a
inductive Tr (α:Type) where
 |e
 |n (l:Tr α) (v:Option α) (r:Tr α)
section
variable {α:Type}
def Tr.get (t:Tr α):Nat->Option α:=
 @Tr.rec α (fun _=>Nat->Option α) (fun _=>none) (fun _ v _ g h k=>@Bool.rec (fun _=>Option α) (@Bool.rec (fun _=>Option α) (h (Nat.div k 2)) (g (Nat.div k 2)) (Nat.beq (Nat.mod k 2) 1)) v (Nat.beq k 0)) t
def Tr.one (v:α) (f:Nat):Nat->Tr α:=
 @Nat.rec (fun _=>Nat->Tr α) (fun _=>.e) (fun _ g k=>@Bool.rec (fun _=>Tr α) (@Bool.rec (fun _=>Tr α) (.n .e none (g (Nat.div k 2))) (.n (g (Nat.div k 2)) none .e) (Nat.beq (Nat.mod k 2) 1)) (.n .e (some v) .e) (Nat.beq k 0)) f
def Tr.set (t:Tr α) (v:α):Nat->Tr α:=
 @Tr.rec α (fun _=>Nat->Tr α) (fun k=>Tr.one v 40 k) (fun l o r sl g k=>@Bool.rec (fun _=>Tr α) (@Bool.rec (fun _=>Tr α) (.n l o (g (Nat.div k 2))) (.n (sl (Nat.div k 2)) o r) (Nat.beq (Nat.mod k 2) 1)) (.n l (some v) r) (Nat.beq k 0)) t
def Tr.del (t:Tr α):Nat->Tr α:=
 @Tr.rec α (fun _=>Nat->Tr α) (fun _=>.e) (fun l o r sl g k=>@Bool.rec (fun _=>Tr α) (@Bool.rec (fun _=>Tr α) (.n l o (g (Nat.div k 2))) (.n (sl (Nat.div k 2)) o r) (Nat.beq (Nat.mod k 2) 1)) (.n l none r) (Nat.beq k 0)) t
end
def puA (x:AV):Bool:=@AV.rec (fun _=>Bool) (fun _=>true) (fun _ _=>true) (fun _=>true) (fun _ _=>false) (fun _ _ _ _ _ _=>false) true true true (fun _=>true) (fun _ _ _ _=>false) x
def puR (r:Rp):Bool:=@Rp.rec (fun _=>Bool) true puA (fun _ g _ _ _ _=>g) r
def Uc (ls:Nat) (l r:Rp):Rp:=.n ls (bA (puR l) (puR r)) l r
def iE (ls:Nat) (l r:Rp):Rp:=@Rp.rec (fun _=>Rp) r (fun _=>@Rp.rec (fun _=>Rp) l (fun _=>Uc ls l r) (fun _ _ _ _ _ _=>Uc ls l r) r) (fun _ _ _ _ _ _=>@Rp.rec (fun _=>Rp) l (fun _=>Uc ls l r) (fun _ _ _ _ _ _=>Uc ls l r) r) l
def iB (r:Rp):Nat->Nat->Nat->Rp:=
 @Rp.rec (fun _=>Nat->Nat->Nat->Rp) (fun _ _ _=>.e) (fun x _ _ n=>bI (Nat.beq n 0) .e (.c x))
  (fun ls u l r sl h g off n=>bI (Nat.beq n g) (.n ls u l r) (bI (Nat.ble (Nat.add off n) ls) (sl ls off n) (bI (Nat.ble ls off) (h (Nat.sub g ls) (Nat.sub off ls) n)
   (iE (Nat.sub ls off) (sl ls off (Nat.sub ls off)) (h (Nat.sub g ls) 0 (Nat.sub (Nat.add off n) ls)))))) r
def updR (d r:Rp):Nat->Nat->Nat->Rp:=
 @Rp.rec (fun _=>Nat->Nat->Nat->Rp) (fun _ _ _=>.e) (fun x _ _ n=>bI (Nat.beq n 0) (.c x) d)
  (fun ls _ l r h u g off n=>bI (Nat.beq n g) d (bI (Nat.ble (Nat.add off n) ls) (Uc ls (h ls off n) r) (bI (Nat.ble ls off) (Uc ls l (u (Nat.sub g ls) (Nat.sub off ls) n))
   (iE off (iB l ls 0 off) (iE n d (iB r (Nat.sub g ls) (Nat.sub (Nat.add off n) ls) (Nat.sub g (Nat.add off n)))))))) r
def qw (r:Rp):Nat->Option AV:=
 @Rp.rec (fun _=>Nat->Option AV) (fun _=>none) (fun x off=>@Bool.rec (fun _=>Option AV) none (some x) (Nat.beq off 0)) (fun ls _ _ _ g h off=>@Bool.rec (fun _=>Option AV) (h (Nat.sub off ls)) (g off) (Nat.blt off ls)) r
def th (l:List AV):Rp:=@List.rec AV (fun _=>Rp) .e (fun x _ g=>iE 1 (.c x) g) l
def pj (m:Nat) (z:Rp) (n:Nat):Rp:=@Nat.rec (fun _=>Rp) .e (fun _ g=>iE m z g) n
structure Bx where
 U:TypeId
 n:Nat
 r:Rp
inductive Lg where
 |p
 |r (k:Nat)
 |w (k:Nat)
 |nw (k:Nat)
 |c (H H':Tr Bx)
inductive Rs where
 |mk (x:XV) (N:Nat) (H:Tr Bx) (g:Lg)
inductive Ro where
 |no
 |n (T:Tr XV) (N:Nat) (H:Tr Bx)
 |x (id:Nat) (T:Tr XV) (N:Nat) (H:Tr Bx)
 |r (T:Tr XV) (N:Nat) (H:Tr Bx)
inductive Cr where
 |no
 |p (x:XV)
 |h (x:XV) (N:Nat) (H:Tr Bx)
abbrev fF:=FuncId->List XV->Nat->Tr Bx->Cr
abbrev LX:=List (Nat×XV)
abbrev oD:=fF->LX->Tr XV->Nat->Tr Bx->Option Rs
abbrev sy:=fF->Nat->Tr XV->Nat->Tr Bx->Ro
inductive XO where
 |l (n:Nat)
 |t (n:Nat)
 |k (x:XV)
def BB (t:Nat) (l:LX):Option XV:=@List.rec (Nat×XV) (fun _=>Option XV) none (fun p _ g=>@Bool.rec (fun _=>Option XV) g (some p.2) (Nat.beq p.1 t)) l
def XO.get (x:XO) (L:LX) (T:Tr XV):Option XV:=@XO.rec (fun _=>Option XV) (fun n=>BB n L) (fun n=>T.get n) (fun v=>some v) x
def Jh (xs:List XO) (L:LX) (T:Tr XV):Option (List XV):=@List.rec XO (fun _=>Option (List XV)) (some []) (fun x _ g=>oO (x.get L T) fun v=>oO g fun vs=>some (v::vs)) xs
section
variable {β:Type}
def xC (x:XV) (f:AV->Option β):Option β:=@XV.rec (fun _=>Option β) f (fun _ _=>none) (fun _=>none) none x
def xA (x:XV) (f:Nat->Rp->Option β):Option β:=@XV.rec (fun _=>Option β) (fun _=>none) f (fun _=>none) none x
def xT (x:XV) (f:List XD->Option β):Option β:=@XV.rec (fun _=>Option β) (fun _=>none) (fun _ _=>none) f none x
def aB (x:AV) (f:Bool->Option β):Option β:=@AV.rec (fun _=>Option β) f (fun _ _=>none) (fun _=>none) (fun _ _=>none) (fun _ _ _ _ _ _=>none) none none none (fun _=>none) (fun _ _ _ _=>none) x
def aI (x:AV) (f:IntKind->Int->Option β):Option β:=@AV.rec (fun _=>Option β) (fun _=>none) f (fun _=>none) (fun _ _=>none) (fun _ _ _ _ _ _=>none) none none none (fun _=>none) (fun _ _ _ _=>none) x
def aP (x:AV) (f:Nat->Nat->Option β):Option β:=@AV.rec (fun _=>Option β) (fun _=>none) (fun _ _=>none) (fun _=>none) f (fun _ _ _ _ _ _=>none) none none none (fun _=>none) (fun _ _ _ _=>none) x
def aS (x:AV) (f:Nat->Nat->Nat->Nat->Bool->Nat->Option β) (z g:Option β):Option β:=@AV.rec (fun _=>Option β) (fun _=>none) (fun _ _=>none) (fun _=>none) (fun _ _=>none) f z g none (fun _=>none) (fun _ _ _ _=>none) x
def xnI (i:Int) (f:Nat->Option β):Option β:=@Int.rec (fun _=>Option β) f (fun _=>none) i
end
def xB {β:Type}(x:XV) (f:Bool->Option β):Option β:=xC x fun a=>aB a f
def xI {β:Type}(x:XV) (f:IntKind->Int->Option β):Option β:=xC x fun a=>aI a f
def xP {β:Type}(x:XV) (f:Nat->Nat->Option β):Option β:=xC x fun a=>aP a f
def xN {β:Type}(x:XV) (f:Nat->Option β):Option β:=xI x fun _ i=>xnI i f
def xD {β:Type}(x:XV) (f:Nat->Rp->Option β):Option β:=@XV.rec (fun _=>Option β) (fun a=>f 1 (.c a)) f (fun _=>none) none x
def kN (k:IntKind):Nat:=@IntKind.rec (fun _=>Nat) 0 1 2 3 4 5 6 7 k
def wb (x y:Int):Bool:=@Int.rec (fun _=>Bool) (fun _=>false) (fun _=>true) (Int.sub x y)
def JB (x y:Int):Bool:=@Int.rec (fun _=>Bool) (fun n=>Nat.beq n 0) (fun _=>false) (Int.sub x y)
def zL (k:IntKind) (n:Int):Int:=bI (Nat.beq (kN k) 3) (bI (Nat.blt n.natAbs 9223372036854775808) n (k.wrap n)) (k.wrap n)
def pR (x:XV) (N:Nat) (H:Tr Bx):Option Rs:=some (.mk x N H .p)
def VQ (x:XO):oD:=fun _ L T N H=>oO (x.get L T) fun v=>pR v N H
def S7 (c a b:XO):oD:=fun _ L T N H=>oO (c.get L T) fun c=>xB c fun t=>oO (bI t (a.get L T) (b.get L T)) fun v=>pR v N H
def nwB (x:XV) (U n:Nat) (r:Rp) (N:Nat) (H:Tr Bx):Option Rs:=some (.mk x (Nat.succ N) (H.set ⟨U,n,r⟩ N) (.nw N))
def Lt (U n:Nat) (z:Rp):oD:=fun _ _ _ N H=>nwB (.c (.p N 0)) U n z N H
def YW (U:Nat) (x:XO):oD:=fun _ L T N H=>oO (x.get L T) fun v=>xD v fun n r=>nwB (.c (.p N 0)) U n r N H
def Lo (L:LX) (T:Tr XV) (g:Nat) (ps:List (Nat×Nat×XO)):Rp->Option Rp:=
 @List.rec (Nat×Nat×XO) (fun _=>Rp->Option Rp) (fun r=>some r) (fun p _ h r=>oO (p.2.2.get L T) fun v=>xD v fun n d=>bT (Nat.beq n p.2.1) (bT (Nat.ble (Nat.add p.1 n) g) (h (updR d r g p.1 n)))) ps
def Ml (g:Nat) (z:Rp) (ps:List (Nat×Nat×XO)):oD:=fun _ L T N H=>oO (Lo L T g ps z) fun r=>pR (.a g r) N H
def Y2 (e n m:Nat) (z:Rp) (ps:List (Nat×Nat×XO)):oD:=fun _ L T N H=>oO (Lo L T (Nat.mul n m) ps z) fun r=>nwB (.c (.s N 0 n n true m)) e (Nat.mul n m) r N H
def rdB (H:Tr Bx) (x:XV) (f:Nat->Nat->Bx->Option Rs):Option Rs:=xP x fun k off=>oO (H.get k) fun b=>f k off b
def Zp (n:Nat) (x:XO):oD:=fun _ L T N H=>oO (x.get L T) fun v=>rdB H v fun k off b=>bT (Nat.ble (Nat.add off n) b.n) (some (.mk (.a n (iB b.r b.n off n)) N H (.r k)))
def ZG (x:XO):oD:=fun _ L T N H=>oO (x.get L T) fun v=>rdB H v fun k off b=>oO (qw b.r off) fun a=>some (.mk (.c a) N H (.r k))
def adJ (n:Nat) (a x:XO):oD:=fun _ L T N H=>oO (a.get L T) fun v=>oO (x.get L T) fun y=>rdB H v fun k off b=>xD y fun m d=>bT (Nat.beq m n) (bT (Nat.ble (Nat.add off n) b.n)
 (some (.mk .u N (H.set ⟨b.U,b.n,updR d b.r b.n off n⟩ k) (.w k))))
def Ql (x:XO):oD:=fun _ L T N H=>oO (x.get L T) fun v=>xP v fun k off=>pR (.c (.p k off)) N H
def Yr (f:IntKind->Int->Int->Option AV) (x y:XO):oD:=fun _ L T N H=>oO (x.get L T) fun v=>oO (y.get L T) fun y2=>xI v fun k a=>xI y2 fun g b=>bT (Nat.beq (kN k) (kN g)) (oO (f k a b) fun r=>pR (.c r) N H)
def X4 (f:IntKind->Int->Int->Option AV) (x y:XO):oD:=fun _ L T N H=>oO (x.get L T) fun v=>oO (y.get L T) fun y2=>xI v fun k a=>xI y2 fun _ b=>oO (f k a b) fun r=>pR (.c r) N H
def LD (g:Bool) (x y:XO):oD:=fun _ L T N H=>oO (x.get L T) fun v=>oO (y.get L T) fun y2=>xB v fun a=>xB y2 fun b=>pR (.c (.b (bI g (!(a==b)) (a==b)))) N H
def LQ (g:Bool) (x:XO):oD:=fun _ L T N H=>oO (x.get L T) fun v=>xC v fun a=>aS a (fun _ _ _ _ _ _=>pR (.c (.b g)) N H) (pR (.c (.b (!g))) N H) none
def PL (s:ByteArray) (i:XO):oD:=fun _ L T N H=>oO (i.get L T) fun v=>xN v fun j=>oO s.data.toList[j]? fun b=>pR (.c (.i .u8 b.toNat)) N H
def XY (x:XO):oD:=fun _ L T N H=>oO (x.get L T) fun v=>xB v fun a=>pR (.c (.b (bI a false true))) N H
def Zb (x:XO):oD:=fun _ L T N H=>oO (x.get L T) fun v=>xI v fun k a=>pR (.c (.i k (zL k (0-a)))) N H
def PT (k:IntKind) (x:XO):oD:=fun _ L T N H=>oO (x.get L T) fun v=>xI v fun _ a=>pR (.c (.i k (zL k a))) N H
def aaR (g:FuncId) (vs:List XV):Option AV:=@List.rec XV (fun _=>Option AV) (some (.f0 g)) (fun v _ h=>xC v fun a=>oO h fun y=>some (.fc a y)) vs
def YF (g:FuncId) (xs:List XO):oD:=fun _ L T N H=>oO (Jh xs L T) fun vs=>oO (aaR g vs) fun y=>pR (.c y) N H
def YG (e m g:Nat) (z:Rp) (n c:XO):oD:=fun _ L T N H=>oO (n.get L T) fun v=>oO (c.get L T) fun y2=>xN v fun a=>xN y2 fun b=>bT (Nat.ble a b) (bT (Nat.ble (Nat.mul b g) 140737488355328) (bT (Nat.ble b 100000)
 (nwB (.c (.s N 0 a b true m)) e (Nat.mul b m) (pj m z b) N H)))
def zW (L:LX) (T:Tr XV) (d:Nat) (x:Option XO):Option Nat:=@Option.rec XO (fun _=>Option Nat) (some d) (fun x=>oO (x.get L T) fun v=>xN v some) x
def agi (m k off lo:Nat) (g:Bool) (l h:Nat):Option AV:=bT (Nat.ble l h) (bT (Nat.ble h lo) (bI (Nat.blt l lo) (some (.s k (Nat.add off (Nat.mul l m)) (Nat.sub h l) (Nat.sub lo l) g m)) (bI g (some (.s k off 0 0 true m)) (some .ev))))
def afU (m k off lo:Nat) (l h M:Nat):Option AV:=bT (Nat.ble l h) (bT (Nat.ble h M) (bT (Nat.ble M lo) (bI (Nat.blt l M) (some (.s k (Nat.add off (Nat.mul l m)) (Nat.sub h l) (Nat.sub M l) true m)) (some (.s k off 0 0 true m)))))
def ZF (m:Nat) (x:XO) (lo hi:Option XO):oD:=fun _ L T N H=>oO (x.get L T) fun v=>xC v fun a=>aS a
 (fun k off n g y u=>oO (zW L T 0 lo) fun l=>oO (zW L T n hi) fun h=>bT (Nat.beq m u) (oO (agi m k off g y l h) fun r=>pR (.c r) N H))
 (oO (zW L T 0 lo) fun l=>oO (zW L T 0 hi) fun h=>bT (Nat.beq l 0) (bT (Nat.beq h 0) (pR (.c .z) N H))) none
def Ym (m:Nat) (x:XO) (lo:Option XO) (hi mx:XO):oD:=fun _ L T N H=>oO (x.get L T) fun v=>xC v fun a=>aS a
 (fun k off _ g _ u=>oO (zW L T 0 lo) fun l=>oO (zW L T 0 (some hi)) fun h=>oO (zW L T 0 (some mx)) fun M=>bT (Nat.beq m u) (oO (afU m k off g l h M) fun r=>pR (.c r) N H)) none none
def aeI (g:Nat) (x:XO):oD:=fun _ L T N H=>oO (x.get L T) fun v=>xP v fun k off=>pR (.c (.p k (Nat.add off g))) N H
def YU (h n:Nat) (x:XO):oD:=fun _ L T N H=>oO (x.get L T) fun v=>xA v fun g r=>bT (Nat.ble (Nat.add h n) g) (pR (.a n (iB r g h n)) N H)
def Zq (g:Nat) (x:XO):oD:=fun _ L T N H=>oO (x.get L T) fun v=>xA v fun _ r=>oO (qw r g) fun a=>pR (.c a) N H
def acU (m:Nat) (x i:XO):oD:=fun _ L T N H=>oO (x.get L T) fun v=>oO (i.get L T) fun y2=>xC v fun a=>xN y2 fun j=>aS a (fun k off n _ _ g=>bT (Nat.blt j n) (bT (Nat.beq m g) (pR (.c (.p k (Nat.add off (Nat.mul j m)))) N H))) none none
def X5 (n m:Nat) (x i:XO):oD:=fun _ L T N H=>oO (x.get L T) fun v=>oO (i.get L T) fun y2=>xP v fun k off=>xN y2 fun j=>bT (Nat.blt j n) (pR (.c (.p k (Nat.add off (Nat.mul j m)))) N H)
def Wz (d:XD):XV:=@XD.rec (fun _=>XV) (fun x=>.c x) (fun n r=>.a n r) d
def U9 (g:List XD):Nat->Option XD:=@List.rec XD (fun _=>Nat->Option XD) (fun _=>none) (fun d _ h i=>@Bool.rec (fun _=>Option XD) (h (Nat.pred i)) (some d) (Nat.beq i 0)) g
def Za (x:XO) (i:Nat):oD:=fun _ L T N H=>oO (x.get L T) fun v=>xT v fun g=>oO (U9 g i) fun d=>pR (Wz d) N H
def fnX (y:AV):List XV->(FuncId->List XV->Option Rs)->Option Rs:=
 @AV.rec (fun _=>List XV->(FuncId->List XV->Option Rs)->Option Rs) (fun _ _ _=>none) (fun _ _ _ _=>none) (fun _ _ _=>none) (fun _ _ _ _=>none) (fun _ _ _ _ _ _ _ _=>none) (fun _ _=>none) (fun _ _=>none) (fun _ _=>none)
  (fun g h f=>f g h.reverse) (fun x _ _ u h f=>u (.c x::h) f) y
def crR (H:Tr Bx) (N:Nat) (r:Cr):Option Rs:=@Cr.rec (fun _=>Option Rs) none (fun x=>some (.mk x N H .p)) (fun x N' H'=>some (.mk x N' H' (.c H H'))) r
def JM (g:FuncId) (xs:List XO):oD:=fun call L T N H=>oO (Jh xs L T) fun vs=>crR H N (call g vs N H)
def Pd (f:XO) (xs:List XO):oD:=fun call L T N H=>oO (f.get L T) fun v=>xC v fun y=>oO (Jh xs L T) fun vs=>fnX y vs.reverse fun g vs'=>crR H N (call g vs' N H)
def ZA (x:XO):oD:=fun _ L T N H=>oO (x.get L T) fun v=>xC v fun a=>aS a (fun _ _ n _ _ _=>pR (.c (.i .i64 (.ofNat n))) N H) (pR (.c (.i .i64 (.ofNat 0))) N H) (pR (.c (.i .i64 (.ofNat 0))) N H)
def ac5 (H:Tr Bx) (e m:Nat) (y:AV) (f:Nat->Rp->Option Rs):Option Rs:=
 aS y (fun k off q _ _ g=>oO (H.get k) fun b=>bT (Nat.beq b.U e) (bT (Nat.beq m g) (bT (Nat.ble (Nat.add off (Nat.mul q m)) b.n) (f q (iB b.r b.n off (Nat.mul q m)))))) (f 0 .e) (f 0 .e)
def XM (x:XV) (N:Nat) (H H':Tr Bx):Option Rs:=some (.mk x N H' (.c H H'))
def ag4 (e m g:Nat) (N:Nat) (H:Tr Bx) (q:Nat) (ys:Rp):Option Rs:=bT (Nat.ble (Nat.mul q g) 140737488355328) (bT (Nat.ble q 1000000) (XM (.c (.s N 0 q q false m)) (Nat.succ N) H (H.set ⟨e,Nat.mul q m,ys⟩ N)))
def agY (e m g:Nat) (N:Nat) (H:Tr Bx) (q:Nat) (ys:Rp) (k off n lo:Nat) (h:Bool) (u:Nat):Option Rs:=
 oO (H.get k) fun b=>bT (Nat.beq b.U e) (bT (Nat.beq m u) (bT (Nat.ble (Nat.mul (Nat.add n q) g) 140737488355328) (bT (Nat.ble (Nat.add n q) 1000000) (bT (Nat.ble (Nat.add off (Nat.mul n m)) b.n)
  (bI (Nat.ble (Nat.add n q) lo)
   (bI (Nat.ble (Nat.add off (Nat.mul (Nat.add n q) m)) b.n)
    (XM (.c (.s k off (Nat.add n q) lo h m)) N H (H.set ⟨e,b.n,updR ys b.r b.n (Nat.add off (Nat.mul n m)) (Nat.mul q m)⟩ k))
    (XM (.c (.s k off (Nat.add n q) lo h m)) N H (H.set ⟨e,Nat.add off (Nat.mul (Nat.add n q) m),iE (Nat.add off (Nat.mul n m)) (iB b.r b.n 0 (Nat.add off (Nat.mul n m))) ys⟩ k)))
   (bI h
    (XM (.c (.s N 0 (Nat.add n q) (Nat.add n q) false m)) (Nat.succ N) H (H.set ⟨e,Nat.mul (Nat.add n q) m,iE (Nat.mul n m) (iB b.r b.n off (Nat.mul n m)) ys⟩ N))
    (bT (Nat.beq off 0) (XM (.c (.s N 0 (Nat.add n q) (Nat.add n q) false m)) (Nat.succ N) H ((H.del k).set ⟨e,Nat.mul (Nat.add n q) m,iE (Nat.mul n m) (iB b.r b.n 0 (Nat.mul n m)) ys⟩ N)))))))))
def Y3 (e m g:Nat) (x y:XO):oD:=fun _ L T N H=>oO (x.get L T) fun v=>oO (y.get L T) fun y2=>xC v fun a=>xC y2 fun b=>ac5 H e m b fun q ys=>bI (Nat.beq q 0)
 (aS a (fun k off n lo u h=>pR (.c (.s k off n lo u h)) N H) (pR (.c .z) N H) none)
 (aS a (fun k off n lo u h=>agY e m g N H q ys k off n lo u h) (ag4 e m g N H q ys) none)
def mmX (mx:Bool) (k:IntKind) (vs:List XV):Int->Option Int:=
 @List.rec XV (fun _=>Int->Option Int) (fun a=>some a) (fun v _ h a=>xI v fun g b=>bT (Nat.beq (kN k) (kN g)) (h (bI mx (bI (wb a b) b a) (bI (wb b a) b a)))) vs
def W2 (mx:Bool) (x:XO) (xs:List XO):oD:=fun _ L T N H=>oO (x.get L T) fun v=>xI v fun k a=>oO (Jh xs L T) fun vs=>oO (mmX mx k vs a) fun r=>pR (.c (.i k r)) N H
def YR:oD:=fun _ _ _ _ _=>none
def Zh (x:XO):oD:=fun _ L T N H=>oO (x.get L T) fun v=>xC v fun a=>aS a (fun _ _ _ lo g _=>bT g (pR (.c (.i .i64 (.ofNat lo))) N H)) (pR (.c (.i .i64 (.ofNat 0))) N H) none
def Ya (e m g:Nat) (z:Rp) (x n:XO):oD:=fun _ L T N H=>oO (x.get L T) fun v=>oO (n.get L T) fun y2=>xC v fun a=>xN y2 fun q=>aS a (fun _ _ _ _ _ _=>none)
 (bT (Nat.blt 0 q) (bT (Nat.ble (Nat.mul q g) 140737488355328) (bT (Nat.ble q 1000000) (XM (.c (.s N 0 q q false m)) (Nat.succ N) H (H.set ⟨e,Nat.mul q m,pj m z q⟩ N))))) none
def Yl (m:Nat) (z:Rp) (x:XO):oD:=fun _ L T N H=>oO (x.get L T) fun v=>xC v fun a=>aS a
 (fun k off n _ _ g=>bI (Nat.beq n 0) (pR (.t []) N H) (oO (H.get k) fun b=>bT (Nat.beq m g) (bT (Nat.ble (Nat.add off (Nat.mul n m)) b.n) (XM (.t []) N H (H.set ⟨b.U,b.n,updR (pj m z n) b.r b.n off (Nat.mul n m)⟩ k)))))
 (pR (.t []) N H) (pR (.t []) N H)
structure XI where
 dst:Option Nat
 lo:Bool
 g:Option (XO×Bool)
 k:oD
def OF (d:Option Nat) (lo:Bool) (x:XV) (L:LX) (T:Tr XV) (κ:LX->Tr XV->Ro):Ro:=
 @Option.rec Nat (fun _=>Ro) (κ L T) (fun d=>@Bool.rec (fun _=>Ro) (κ L (T.set x d)) (κ ((d,x)::L) T) lo) d
def gdX (g:Option (XO×Bool)) (L:LX) (T:Tr XV):Option Bool:=
 @Option.rec (XO×Bool) (fun _=>Option Bool) (some true) (fun p=>oO (p.1.get L T) fun v=>@XV.rec (fun _=>Option Bool) (fun a=>aB a fun b=>some (b==p.2)) (fun _ _=>none) (fun _=>none) (some false) v) g
def Wp (call:fF) (i:XI) (L:LX) (T:Tr XV) (N:Nat) (H:Tr Bx) (κ:LX->Tr XV->Nat->Tr Bx->Lg->Ro):Ro:=
 @Option.rec Bool (fun _=>Ro) .no (fun b=>@Bool.rec (fun _=>Ro) (OF i.dst i.lo .u L T fun L T=>κ L T N H .p)
  (@Option.rec Rs (fun _=>Ro) .no (fun r=>@Rs.rec (fun _=>Ro) (fun x N' H' g=>OF i.dst i.lo x L T fun L T=>κ L T N' H' g) r) (i.k call L T N H)) b) (gdX i.g L T)
def JG (call:fF) (l:List XI):LX->Tr XV->Nat->Tr Bx->Ro:=
 @List.rec XI (fun _=>LX->Tr XV->Nat->Tr Bx->Ro) (fun _ T N H=>.n T N H) (fun i _ g L T N H=>Wp call i L T N H fun L T N H _=>g L T N H) l
def xp:AV->AV->Bool
 | .b x,.b y=>x==y
 | .i k x,.i k' y=>decide (k=k')&&x==y
 | .l x,.l y=>Nat.beq x y
 | .p k o,.p k' o'=>Nat.beq k k'&&Nat.beq o o'
 | .s k o n l e m,.s k' o' n' l' e' m'=>Nat.beq k k'&&Nat.beq o o'&&Nat.beq n n'&&Nat.beq l l'&&(e==e')&&Nat.beq m m'
 | .z,.z=>true
 | .np,.np=>true
 | .f0 g,.f0 g'=>Nat.beq g g'
 | .fc x y,.fc x' y'=>xp x x'&&xp y y'
 |_,_=>false
def J1:Rp->Rp->Bool
 | .e,.e=>true
 | .c x,.c y=>xp x y
 | .n _ _ l r,.n _ _ l' r'=>J1 l l'&&J1 r r'
 |_,_=>false
def Dp:Option Bx->Option Bx->Bool
 |none,none=>true
 |some b,some b'=>Nat.beq b.U b'.U&&J1 b.r b'.r
 |_,_=>false
def s5 (H:Tr Bx) (k:Nat):Bool:=@Option.rec Bx (fun _=>Bool) true (fun _=>false) (H.get k)
def apart:Lg->Lg->Bool
 | .p,_=>true
 |_,.p=>true
 | .r _,.r _=>true
 | .r k,.w k'=> !Nat.beq k k'
 | .w k',.r k=> !Nat.beq k k'
 | .r k,.nw k'=> !Nat.beq k k'
 | .nw k',.r k=> !Nat.beq k k'
 | .r k,.c H H'=>Dp (H.get k) (H'.get k)
 | .c H H',.r k=>Dp (H.get k) (H'.get k)
 | .w k,.w k'=> !Nat.beq k k'
 | .w k,.nw k'=> !Nat.beq k k'
 | .nw k',.w k=> !Nat.beq k k'
 | .nw k,.nw k'=> !Nat.beq k k'
 | .c H H',.nw k=>s5 H k&&s5 H' k
 | .nw k,.c H H'=>s5 H k&&s5 H' k
 | .c H H',.w k=>s5 H k&&s5 H' k
 | .w k,.c H H'=>s5 H k&&s5 H' k
 | .c _ _,.c _ _=>false
abbrev Ds:=List (Nat×Lg)
def yy (u:Nat) (g:Lg) (l:Ds):Bool:=@List.rec (Nat×Lg) (fun _=>Bool) true (fun p _ h=>@Bool.rec (fun _=>Bool) (bA (apart p.2 g) h) h (Nat.testBit u p.1)) l
def adu (h:Nat) (l:Ds):List Nat:=@List.rec (Nat×Lg) (fun _=>List Nat) [] (fun p _ g=>@Bool.rec (fun _=>List Nat) (@Lg.rec (fun _=>List Nat) g (fun _=>g) (fun _=>g) (fun k=>k::g) (fun _ _=>g) p.2) g (Nat.testBit h p.1)) l
def NR (H:Tr Bx):List Nat->Tr Bx
 |[]=>H
 |k::r=>NR (H.del k) r
def GS (H0 g:Tr Bx):List Nat->Tr Bx->Option (Tr Bx)
 |[],H=>some H
 |k::r,H=>match g.get k,H0.get k with
  |none,some b=>GS H0 g r (H.set b k)
  |_,_=>none
structure XJ where
 i:XI
 cl:Bool
 bf:Nat
def Fc (y k:Nat) (g:Lg) (h u:Ds) (κ:Ds->Ds->Ro):Ro:=bI (yy y g u) (bI (yy y g h) (κ h ((k,g)::u)) .no) .no
def Vh (y k:Nat) (g:Lg) (u h:Ds) (κ:Ds->Ds->Ro):Ro:=
 @Lg.rec (fun _=>Ro) (κ u h) (fun b=>bI (yy y (.r b) h) (κ ((k,.r b)::u) h) .no) (fun b=>Fc y k (.w b) u h κ) (fun b=>Fc y k (.nw b) u h κ) (fun H H'=>Fc y k (.c H H') u h κ) g
def SK (g:Lg):Bool:=@Lg.rec (fun _=>Bool) true (fun _=>false) (fun _=>false) (fun _=>false) (fun _ _=>true) g
def Oa (call:fF) (i:XI) (hs:List Nat) (L:LX) (T:Tr XV) (N:Nat) (H:Tr Bx) (κ:LX->Tr XV->Nat->Tr Bx->Lg->Ro):Ro:=
 @List.rec Nat (fun _=>Ro) (Wp call i L T N H κ) (fun h t _=>Wp call i L T N (NR H (h::t)) fun L T N H' g=>bI (SK g) (@Option.rec (Tr Bx) (fun _=>Ro) .no (fun H2=>κ L T N H2 g) (GS H H' (h::t) H')) .no) hs
def Fj (call:fF) (l:List XJ):Nat->LX->Tr XV->Nat->Tr Bx->Ds->Ds->Ro:=
 @List.rec XJ (fun _=>Nat->LX->Tr XV->Nat->Tr Bx->Ds->Ds->Ro) (fun _ _ T N H _ _=>.n T N H)
  (fun j _ y k L T N H u h=>Oa call j.i (@Bool.rec (fun _=>List Nat) [] (adu j.bf h) j.cl) L T N H fun L T N H g=>Vh j.bf k g u h fun u h=>y (Nat.succ k) L T N H u h) l
def acL:sy:=fun _ _ T N H=>.n T N H
def ag3 (l:List XI):sy:=fun call _ T N H=>JG call l [] T N H
def agb (l:List XJ):sy:=fun call _ T N H=>Fj call l 0 [] T N H [] []
def aed (a b:sy):sy:=fun call f T N H=>@Ro.rec (fun _=>Ro) .no (fun T N H=>b call f T N H) (fun id T N H=>.x id T N H) (fun T N H=>.r T N H) (a call f T N H)
def Zn (t:Nat) (a b:sy):sy:=fun call f T N H=>@Option.rec Bool (fun _=>Ro) .no (fun v=>@Bool.rec (fun _=>Ro) (b call f T N H) (a call f T N H) v) (oO (T.get t) fun v=>xB v some)
def RT (id:Nat) (c:sy):sy:=fun call f T N H=>@Ro.rec (fun _=>Ro) .no (fun T N H=>.n T N H) (fun g T N H=>@Bool.rec (fun _=>Ro) (.x g T N H) (.n T N H) (Nat.beq g id)) (fun T N H=>.r T N H) (c call f T N H)
def afh (c:sy):sy:=fun call f=>@Nat.rec (fun _=>Tr XV->Nat->Tr Bx->Ro) (fun _ _ _=>.no) (fun _ g T N H=>@Ro.rec (fun _=>Ro) .no (fun T N H=>g T N H) (fun id T N H=>.x id T N H) (fun T N H=>.r T N H) (c call f T N H)) f
def aeM (id:Nat):sy:=fun _ _ T N H=>.x id T N H
def af9:sy:=fun _ _ T N H=>.r T N H
inductive XR where
 |t (n:Nat)
 |c (t n:Nat)
 |c1 (t:Nat)
structure XF where
 pure:Bool
 run:sy
 rs:List XR
 na:Nat
def toD (v:XV):Option XD:=@XV.rec (fun _=>Option XD) (fun x=>some (.c x)) (fun n r=>some (.a n r)) (fun _=>none) none v
def aaK (T:Tr XV) (H:Tr Bx) (r:XR):Option XD:=@XR.rec (fun _=>Option XD) (fun n=>oO (T.get n) toD)
 (fun t n=>oO (T.get t) fun v=>xP v fun k off=>oO (H.get k) fun b=>bT (Nat.ble (Nat.add off n) b.n) (some (.a n (iB b.r b.n off n))))
 (fun t=>oO (T.get t) fun v=>xP v fun k off=>oO (H.get k) fun b=>oO (qw b.r off) fun a=>some (.c a)) r
def te (T:Tr XV) (H:Tr Bx) (rs:List XR):Option (List XD):=@List.rec XR (fun _=>Option (List XD)) (some []) (fun r _ h=>oO (aaK T H r) fun d=>oO h fun g=>some (d::g)) rs
def pE (g:List XD):XV:=@List.rec XD (fun _=>XV) (.t []) (fun d r _=>@List.rec XD (fun _=>XV) (Wz d) (fun _ _ _=>.t (d::r)) r) g
def qr (vs:List XV):Nat->Tr XV->Tr XV:=@List.rec XV (fun _=>Nat->Tr XV->Tr XV) (fun _ t=>t) (fun v _ g k t=>g (Nat.succ k) (t.set v k)) vs
def Zz (v:XV):Bool:=@XV.rec (fun _=>Bool) puA (fun _ r=>puR r) (fun _=>false) false v
def puL (vs:List XV):Bool:=@List.rec XV (fun _=>Bool) true (fun v _ g=>bA (Zz v) g) vs
def puD (g:List XD):Bool:=@List.rec XD (fun _=>Bool) true (fun d _ h=>bA (Zz (Wz d)) h) g
structure Env where
 pr:Tr (List XV->Option (List XD))
 fs:Tr (Option XF)
def aas (vs:List XV):Nat->Bool:=@List.rec XV (fun _=>Nat->Bool) (fun _=>true) (fun _ _ g n=>@Nat.rec (fun _=>Bool) false (fun k _=>g k) n) vs
def Tk (_F:XF) (κ:Tr XV->Nat->Tr Bx->Cr) (r:Ro):Cr:=@Ro.rec (fun _=>Cr) .no κ (fun _ _ _ _=>.no) κ r
def zT (F:XF) (u:fF) (fuel:Nat) (vs:List XV) (N:Nat) (H:Tr Bx):Cr:=
 @Bool.rec (fun _=>Cr) .no (@Bool.rec (fun _=>Cr)
  (Tk F (fun T N' H'=>@Option.rec (List XD) (fun _=>Cr) .no (fun g=>.h (pE g) N' H') (te T H' F.rs)) (F.run u fuel (qr vs 0 .e) N H))
  (Tk F (fun T _ H'=>@Option.rec (List XD) (fun _=>Cr) .no (fun g=>@Bool.rec (fun _=>Cr) .no (.p (pE g)) (puD g)) (te T H' F.rs)) (F.run u fuel (qr vs 0 .e) 0 .e))
  (bA F.pure (puL vs))) (aas vs F.na)
def Qk (E:Env) (fuel:Nat) (depth:Nat):fF:=
 @Nat.rec (fun _=>fF) (fun _ _ _ _=>.no) (fun _ u g vs N H=>
  @Option.rec (List XD) (fun _=>Cr) (@Option.rec XF (fun _=>Cr) .no (fun F=>zT F u fuel vs N H) (oO (E.fs.get g) fun x=>x)) (fun h=>.p (pE h)) (oO (E.pr.get g) fun p=>p vs)) depth
def kS {α β:Type}(f:α->Option β):List α->Option (List β)
 |[]=>some []
 |x::xs=>match f x with
  |none=>none
  |some y=>match kS f xs with
   |none=>none
   |some ys=>some (y::ys)
def mF:Value->Option AV
 | .bool b=>some (.b b)
 | .int k n=>some (.i k n)
 | .slice none 0 0=>some .z
 | .pointer none=>some .np
 |_=>none
def R2:Value->Option XV
 | .agg cs=>(kS mF cs.toList).map fun l=>.a l.length (th l)
 |v=>(mF v).map .c
def aaA:Value->Option (List AV)
 | .agg cs=>kS mF cs.toList
 |v=>(mF v).map fun x=>[x]
def zcA (P:Program) (U:TypeId):Option (List AV):=
 match P.info? U with
 |some i=>match i.zero with
  |some z=>aaA z
  |none=>none
 |none=>none
def R4 (P:Program) (U:TypeId):Option (TypeId×Nat×Nat×List AV):=
 match P.underlying U with
 |some (.slice e)=>match P.info? e,zcA P e with
  |some i,some zs=>bif Nat.beq zs.length i.size&&Nat.blt 0 i.size then some (e,i.size,i.bytes,zs) else none
  |_,_=>none
 |_=>none
def arA (P:Program) (U:TypeId):Option (Nat×Nat):=
 match P.underlying U with
 |some (.array n e)=>(P.info? e).map fun i=>(n,i.size)
 |_=>none
def Xm (P:Program) (U:TypeId):Option IntKind:=
 match P.underlying U with
 |some (.int k)=>some k
 |_=>none
def cO (m:Nat):Operand->Option XO
 | .tmp t=>bif m.testBit t then some (.l t) else some (.t t)
 | .const v=>(R2 v).map .k
 | .func g=>some (.k (.c (.f0 g)))
 | .global _=>none
def E6 (m:Nat):Option Operand->Option (Option XO)
 |none=>some none
 |some x=>(cO m x).map some
def cPs (m:Nat) (g:Nat->Option (Nat×Nat)):List (Nat×Operand)->Option (List (Nat×Nat×XO))
 |[]=>some []
 |(i,x)::r=>match g i,cO m x,cPs m g r with
  |some (off,sz),some y,some ys=>some ((off,sz,y)::ys)
  |_,_,_=>none
def o1 (m:Nat) (f:XO->oD) (x:Operand):Option oD:=(cO m x).map f
def o2 (m:Nat) (f:XO->XO->oD) (x y:Operand):Option oD:=match cO m x,cO m y with
 |some a,some b=>some (f a b)
 |_,_=>none
def agS (k:IntKind) (x y:Int):Option AV:=some (.i k (zL k (Int.add x y)))
def afX (k:IntKind) (x y:Int):Option AV:=some (.i k (zL k (Int.sub x y)))
def agn (k:IntKind) (x y:Int):Option AV:=some (.i k (zL k (Int.mul x y)))
def aeG (k:IntKind) (x y:Int):Option AV:=bI (JB y 0) none (some (.i k (zL k (Int.tdiv x y))))
def adG (k:IntKind) (x y:Int):Option AV:=bI (JB y 0) none (some (.i k (Int.tmod x y)))
def ago (k:IntKind) (x y:Int):Option AV:=some (.i k (k.wrap (BitVec.ofInt k.bits x&&&BitVec.ofInt k.bits y).toNat))
def fOr (k:IntKind) (x y:Int):Option AV:=some (.i k (k.wrap (BitVec.ofInt k.bits x|||BitVec.ofInt k.bits y).toNat))
def agI (k:IntKind) (x y:Int):Option AV:=some (.i k (k.wrap (BitVec.ofInt k.bits x^^^BitVec.ofInt k.bits y).toNat))
def agE (_:IntKind) (x y:Int):Option AV:=some (.b (JB x y))
def af3 (_:IntKind) (x y:Int):Option AV:=some (.b (bI (JB x y) false true))
def agZ (_:IntKind) (x y:Int):Option AV:=some (.b (wb x y))
def age (_:IntKind) (x y:Int):Option AV:=some (.b (bI (wb y x) false true))
def agp (_:IntKind) (x y:Int):Option AV:=some (.b (wb y x))
def agk (_:IntKind) (x y:Int):Option AV:=some (.b (bI (wb x y) false true))
def ado (k:IntKind) (x y:Int):Option AV:=bI (wb y 0) none (some (.i k (k.wrap (x*2^(min y.toNat k.bits)))))
def acW (k:IntKind) (x y:Int):Option AV:=bI (wb y 0) none (some (.i k (x.fdiv (2^(min y.toNat k.bits)))))
def Wn:BinOp->Option (IntKind->Int->Int->Option AV)
 | .add=>some agS| .sub=>some afX| .mul=>some agn| .quo=>some aeG| .rem=>some adG
 | .and=>some ago| .or=>some fOr| .xor=>some agI
 | .eql=>some agE| .neq=>some af3| .lss=>some agZ| .leq=>some age| .gtr=>some agp| .geq=>some agk
 |_=>none
def abf:BinOp->Option (IntKind->Int->Int->Option AV)
 | .shl=>some ado| .shr=>some acW
 |_=>none
def fd2 (P:Program) (U:TypeId) (f:Nat):Option (Bool×Nat×Nat):=
 match P.underlying U with
 |some (.struct fs)=>match fs[f]? with
  |some g=>match mv P g.type with
   |some (b,n)=>some (b,g.offset,n)
   |none=>none
  |none=>none
 |_=>none
def zY (P:Program) (m:Nat):Op->Option oD
 | .move x=>o1 m VQ x
 | .assign x=>o1 m VQ x
 | .pick c a b=>match cO m c with
   |some c=>o2 m (S7 c) a b
   |none=>none
 | .alloc U=>(zcA P U).map fun zs=>Lt U zs.length (th zs)
 | .box U x=>o1 m (YW U) x
 | .build U ps=>match FJ P U,zcA P U with
   |some pl,some zs=>(cPs m (fun i=>pl[i]?) ps.toList).map (Ml zs.length (th zs))
   |_,_=>none
 | .buildSlice U n ps=>match R4 P U with
   |some (e,sz,_,zs)=>bif Nat.ble (n*sz) 10000 then(cPs m (fun i=>some (i*sz,sz)) ps.toList).map (Y2 e n sz (pj sz (th zs) n)) else none
   |none=>none
 | .load U x=>match mv P U with
   |some (true,n)=>o1 m (Zp n) x
   |some (false,_)=>o1 m ZG x
   |none=>none
 | .store U a x=>match mv P U with
   |some (_,n)=>o2 m (adJ n) a x
   |none=>none
 | .nilCheck x=>o1 m Ql x
 | .binOp op U x y _=>match P.underlying U with
   |some .bool=>match op with
    | .eql=>o2 m (LD false) x y
    | .neq=>o2 m (LD true) x y
    |_=>none
   |some (.int _)=>match Wn op with
    |some f=>o2 m (Yr f) x y
    |none=>match abf op with
     |some f=>o2 m (X4 f) x y
     |none=>none
   |some (.slice _)=>match op,y with
    | .eql,.const (.slice none 0 0)=>o1 m (LQ false) x
    | .neq,.const (.slice none 0 0)=>o1 m (LQ true) x
    |_,_=>none
   |_=>none
 | .unOp .not _ x=>o1 m XY x
 | .unOp .neg _ x=>o1 m Zb x
 | .convert s d x=>match Xm P s,Xm P d with
   |some _,some k=>o1 m (PT k) x
   |_,_=>none
 | .makeFunc (.func g) first cs=>bif first.isEmpty then(kS (cO m) cs.toList).map (YF g) else none
 | .makeSlice U n c=>match R4 P U with
   |some (e,sz,by_,zs)=>o2 m (YG e sz by_ (th zs)) n c
   |none=>none
 | .slice U x lo hi mx=>match om P U,cO m x,E6 m lo,E6 m hi,E6 m mx with
   |some sz,some x,some lo,some hi,some none=>some (ZF sz x lo hi)
   |some sz,some x,some lo,some (some hi),some (some mx)=>some (Ym sz x lo hi mx)
   |_,_,_,_,_=>none
 | .fieldAddr U x f=>match Nk P U f with
   |some off=>o1 m (aeI off) x
   |none=>none
 | .field U x f=>match fd2 P U f with
   |some (true,off,n)=>o1 m (YU off n) x
   |some (false,off,_)=>o1 m (Zq off) x
   |none=>none
 | .indexAddr U x i=>match om P U with
   |some sz=>o2 m (acU sz) x i
   |none=>match arA P U with
    |some (n,sz)=>o2 m (X5 n sz) x i
    |none=>none
 | .index U (.const (.string b)) i=>match P.underlying U with
   |some .string=>o1 m (PL b) i
   |_=>none
 | .extract x i=>o1 m (Za · i) x
 | .call ⟨.value (.func g),xs,_⟩=>(kS (cO m) xs.toList).map (JM g)
 | .call ⟨.value (.tmp t),xs,_⟩=>match cO m (.tmp t),kS (cO m) xs.toList with
   |some f,some xs=>some (Pd f xs)
   |_,_=>none
 | .call ⟨.builtin .len,xs,ts⟩=>match xs.toList,ts.toList with
   |[x],[U]=>match om P U with
    |some _=>o1 m ZA x
    |none=>none
   |_,_=>none
 | .call ⟨.builtin .append,xs,ts⟩=>match xs.toList,ts.toList with
   |[x,y],[U,W]=>match R4 P U with
    |some (e,sz,by_,zs)=>bif Nat.beq U W then o2 m (Y3 e sz by_) x y else match Xm P W with
     |some _=>o2 m (Ya e sz by_ (th zs)) x y
     |none=>none
    |none=>none
   |_,_=>none
 | .call ⟨.builtin .cap,xs,ts⟩=>match xs.toList,ts.toList with
   |[x],[U]=>match om P U with
    |some _=>o1 m Zh x
    |none=>none
   |_,_=>none
 | .call ⟨.builtin .max,xs,_⟩=>match xs.toList with
   |x::r=>match cO m x,kS (cO m) r with
    |some x,some r=>some (W2 true x r)
    |_,_=>none
   |_=>none
 | .call ⟨.builtin .min,xs,_⟩=>match xs.toList with
   |x::r=>match cO m x,kS (cO m) r with
    |some x,some r=>some (W2 false x r)
    |_,_=>none
   |_=>none
 | .call ⟨.builtin .clear,xs,ts⟩=>match xs.toList,ts.toList with
   |[x],[U]=>match R4 P U with
    |some (_,sz,_,zs)=>o1 m (Yl sz (th zs)) x
    |none=>none
   |_,_=>none
 |_=>none
def cG (m:Nat) (ops:Array Oper) (o:Oper):Option (Option (XO×Bool)):=
 match o.guard with
 |none=>some none
 |some (g,b)=>match (ops[g]?).bind (·.dst) with
  |some t=>(cO m (.tmp t)).map fun x=>some (x,b)
  |none=>none
def XZ (n:Nat):Option Nat->Bool
 |none=>true
 |some d=>Nat.blt d n
def Xj (m:Nat):Option Nat->Bool
 |none=>false
 |some d=>m.testBit d
def XB (P:Program) (n m:Nat) (ops:Array Oper) (o:Oper):Option XI:=
 bif XZ n o.dst then
  match cG m ops o,zY P m o.op with
  |some g,some k=>some ⟨o.dst,Xj m o.dst,g,k⟩
  |some g,none=>some ⟨o.dst,Xj m o.dst,g,YR⟩
  |_,_=>none
 else none
def HU (g:List Nat) (o:Oper):Nat:=(bL o).foldl (fun m j=>m|||2^j|||g.getD j 0) 0
def nU (l:List Oper):List Nat:=l.foldl (fun g o=>g++[HU g o]) []
def F0:Op->Bool
 | .call ⟨.value _,_,_⟩=>true
 |_=>false
def M9 (d:Option Nat) (l:List Nat):Bool:=match d with
 |none=>false
 |some d=>l.any (Nat.beq d)
def aeR (d e:Option Nat):Bool:=match d,e with
 |some d,some e=>Nat.beq d e
 |_,_=>false
def Vz (ops:Array Oper) (p q:Oper):Bool:= !M9 p.dst (q.looksAt ops)&& !M9 q.dst (p.looksAt ops)&& !aeR p.dst q.dst
def unB (ops:Array Oper) (g:List Nat) (l:List Oper) (i:Nat):Bool:=match l[i]? with
 |none=>false
 |some q=>(bL q).all (fun j=>Nat.blt j i)&&(List.range i).all fun j=>(g.getD i 0).testBit j||match l[j]? with
  |none=>false
  |some p=>Vz ops p q
def tI (P:Program) (n m:Nat) (ops:Array Oper):List Nat->List Oper->Option (List XJ)
 |mk::ms,o::r=>match XB P n m ops o with
  |none=>none
  |some x=>match tI P n m ops ms r with
   |none=>none
   |some xs=>some (⟨x,F0 o.op,mk⟩::xs)
 |_,_=>some []
def cC (P:Program) (n m:Nat):Code->Option sy
 | .skip=>some acL
 | .region _ ops draw=>match draw with
   |false=>(kS (XB P n m ops) ops.toList).map ag3
   |true=>bif (List.range ops.size).all (unB ops (nU ops.toList) ops.toList) then(tI P n m ops (nU ops.toList) ops.toList).map agb else none
 | .seq a b=>match cC P n m a with
   |none=>none
   |some x=>match cC P n m b with
    |none=>none
    |some y=>some (aed x y)
 | .cond (.tmp t) a b=>match cC P n m a with
   |none=>none
   |some x=>match cC P n m b with
    |none=>none
    |some y=>bif m.testBit t then none else some (Zn t x y)
 | .cond (.const (.bool b)) x y=>match b with
   |true=>cC P n m x
   |false=>cC P n m y
 | .block id c=>(cC P n m c).map (RT id)
 | .loop c=>(cC P n m c).map afh
 | .exit id=>some (aeM id)
 | .ret=>some af9
 |_=>none
def cR2 (P:Program) (m:Nat):ResultVar->Option XR
 | .tmp t=>bif m.testBit t then none else some (.t t)
 | .cell t U=>bif m.testBit t then none else match mv P U with
   |some (true,n)=>some (.c t n)
   |some (false,_)=>some (.c1 t)
   |none=>none
def cF (P:Program) (g:Bool) (m:Nat) (fn:Func):Option XF:=match fn.body with
 |none=>none
 |some c=>match cC P fn.ntmps m c,kS (cR2 P m) fn.results.toList with
  |some x,some rs=>some ⟨g,x,rs,fn.ntmps⟩
  |_,_=>none
def TW {α:Type}:List (Nat×α)->Tr α
 |[]=>.e
 |(k,v)::r=>(TW r).set v k
end
end Go.Proofs.YtegeknjkgadehaaGreat
