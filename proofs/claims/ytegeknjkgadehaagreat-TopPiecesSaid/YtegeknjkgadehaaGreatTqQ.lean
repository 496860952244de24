/-Plain:two arcs beside a common point:their order at an x is the specified one,or they meet before. -/
import Derived.Test.YtegeknjkgadehaaGreatTqP
namespace Go.Proofs.YtegeknjkgadehaaGreat
open Go Go.RowKit
variable {d k:Ci}{c:Cv}{l:Ln}{x:Pt}{a b:Rat}
section
variable {k:Ci}{w:Bool}{f t:Pt}(vc:CvV (.arc k w f t))
include vc
theorem SB (j:OnK k x) (h:(Cv.arc k w f t).on x=true):(Cv.arc k (!w) t f).on x=true:=by
 have h0:0<k.q:=vc.pos;have op:=(yw vc).1;have A:=(yw vc).2;rw[uz (bW.2 j.2)] at h⊢;cases w with
 |true=>exact((xb (k:=k) A.1 op.1 j.1).trans (yd h0 op A j).symm).trans h
 |false=>exact((yd h0 A op j).trans (xb (k:=k) op.1 A.1 j.1).symm).trans h
theorem adD: ∀p∈f::(aT dPt (a7 (.arc k w f t)) (dx (.arc k w f t))++[t]),(Cv.arc k w f t).on p=true:=by
 have of:=(yw vc).1;have D:=(yw vc).2;have j: ∀ {x:Pt},OnK k x->(Cv.arc k w f t).ord x x<=0:=fun I=>by have:=gU (w:=w) (t:=t) of I I;omega
 intro p A;rcases dt.1 A with rfl|A
 .rw[uz (bW.2 of.2)];exact Bool.and_eq_true_iff.2 ⟨decide_eq_true (j of),decide_eq_true (qK of D)⟩
 .rcases lh.1 A with A|A;·exact(fw vc p ((iu _).mem_iff.1 A)).2
  .rw[gZ.1 A,uz (bW.2 D.2)];exact Bool.and_eq_true_iff.2 ⟨decide_eq_true (qK of D),decide_eq_true (j D)⟩
end
theorem PI (vc:CvV c): ∀d∈dC c,d.mono=true:=fun d A=>by obtain⟨x,j,rfl⟩:=nZ.1 ((sh c).mem_iff.1 A);exact Pd vc x (Y1 vc▸j)
theorem SE:(dC c).length<=3:=by unfold dC;rw[fi,List.length_map];exact DE
theorem Ej {f t:Pt}(p q:Pt):(Cv.seg l f t).ord p q=if cP f t>0 then-cP p q else cP p q:=by
 show(if decide (cP f t>0)=true then-cP p q else cP p q)=_;by_cases h:cP f t>0;·grind
 grind
theorem tw:c.on x=true↔c.supp x=true/\c.ord c.p x<=0/\c.ord x c.q<=0:=by unfold Cv.on;grind
def bh (S:List Pt) (n:Nat):List Pt:=((List.range n).filter fun i=>i==0||cP (S.getD i dPt) (S.getD (i-1) dPt) !=0).map fun i=>S.getD i dPt
def j7 (c:Cv) (p:Pt):Bool:= !(cP p c.p==0)&& !(cP p c.q==0)
section
variable {S:List Pt}{n:Nat}
theorem Jt:bh S (n+1)=bh S n++(if (n==0||cP (S.getD n dPt) (S.getD (n-1) dPt) !=0)=true then[S.getD n dPt] else[]):=by unfold bh;rw[List.range_succ,wI,zO];congr 1;rw[List.filter_cons];split<;>rfl
theorem Jj (h:cP (S.getD n dPt) (S.getD (n-1) dPt)≠0):bh S (n+1)=bh S n++[S.getD n dPt]:=by rw[Jt,if_pos (by rw[rV];exact .inr (bne_iff_ne.2 h))]
theorem Is (h0:0<n) (h:cP (S.getD n dPt) (S.getD (n-1) dPt)=0):bh S (n+1)=bh S n:=by rw[Jt,if_neg,ws];rw[rV,beq_iff_eq,bne_iff_ne];omega
theorem yq:(bh S n).length<=n:=by unfold bh;rw[List.length_map];exact gG (uo _ _) (by simp)
theorem B5 (j: ∀i,i+1<n->cP (S.getD (i+1) dPt) (S.getD i dPt)≠0) (D:n<=S.length):bh S n=S.take n:=by
 induction n with
 |zero=>rfl
 |succ n A=>
  rw[i7 (by omega),<-A (fun i hi=>j i (by omega)) (by omega)];by_cases h:n=0;·subst h;rfl
  .exact Jj (by have:=j (n-1) (by omega);rw[show n-1+1=n from by omega] at this;exact this)
theorem JV (j:n<=S.length) (h:x∈bh S n):x∈S:=by unfold bh at h;obtain⟨i,hi,rfl⟩:=nZ.1 h;have:=qE.1 (u6.1 hi).1;exact dG (by omega)
end
def wK (c:Cv) (L:List Pt):List Pt:=(bh (aT dPt (a7 c) L) L.length).filter (j7 c)
def BY (l:Ln) (k:Ci):Rat:=p5 l k/(iI l*iI l)
def Zt (l:Ln):Bool:=decide (aG l.b 0<0)||(aG l.b 0==0&&decide (aG (-l.a) 0<0))
def VB (l:Ln):Rat:=if Zt l then-l.b else l.b
def Vv (l:Ln):Rat:=if Zt l then- -l.a else-l.a
def M2 (l:Ln) (k:Ci):Pt:=iP (oC l k) (-VB l) (oh l k) (-Vv l) (BY l k)
def NJ (l:Ln) (k:Ci):Pt:=iP (oC l k) (VB l) (oh l k) (Vv l) (BY l k)
def zD (l:Ln) (k:Ci):List Pt:=if aG (BY l k) 0= -1 then[] else if aG (BY l k) 0=0 then[⟨oC l k,0,oh l k,0,0⟩] else[M2 l k,NJ l k]
def zG (k d:Ci):List Pt:=if kr k d then[] else if pF k d then[] else zD (KW k d) k
section
variable {l:Ln}{k:Ci}(hl:GL l) (hk:GK k)
include hl
theorem Zc: ¬(l.b=0/\l.a=0):=fun e=>hl.n (by unfold iI;rw[e.1,e.2];grind)
include hk
theorem ac4:Rz 200 (BY l k):=((v8 hl hk).div ((j9 hl).mul (j9 hl)) (by intro e;rcases zT.1 e with e|e<;>exact hl.n e)).mono (by decide)
end
theorem acg (h:iI l≠0):BY l k=(k.q-((oC l k-k.x)*(oC l k-k.x)+(oh l k-k.y)*(oh l k-k.y)))/iI l:=by
 have e1:oC l k-k.x= -(pt l k.x k.y/iI l*l.a):=by unfold oC;grind
 have A:oh l k-k.y= -(pt l k.x k.y/iI l*l.b):=by unfold oh;grind
 unfold BY p5;have j:iI l=l.a*l.a+l.b*l.b:=rfl;grind
section
variable {l:Ln}{k:Ci}
theorem TJ (h:Zt l=true):VB l= -l.b/\Vv l= - -l.a:=by unfold VB Vv;rw[h];exact⟨rfl,rfl⟩
theorem U9 (h:Zt l=false):VB l=l.b/\Vv l= -l.a:=by unfold VB Vv;rw[h];exact⟨rfl,rfl⟩
theorem aaS (h:aG (BY l k) 0= -1):zD l k=[]:=if_pos h
theorem acI (h: ¬aG (BY l k) 0= -1) (g:aG (BY l k) 0=0):zD l k=[⟨oC l k,0,oh l k,0,0⟩]:=(if_neg h).trans (if_pos g)
theorem HD (h: ¬aG (BY l k) 0= -1) (g: ¬aG (BY l k) 0=0):zD l k=[M2 l k,NJ l k]:=(if_neg h).trans (if_neg g)
end
def IQ (k d:Ci):Int:=if kr k d then 10 else 0
section
variable {k d:Ci}
theorem TG (h:kr k d=true):zG k d=[]/\IQ k d=10:=by unfold zG IQ;rw[h];exact⟨rfl,rfl⟩
theorem N6 (h:kr k d=false) (g:pF k d=true):zG k d=[]/\IQ k d=0:=by unfold zG IQ;rw[h,g];exact⟨rfl,rfl⟩
theorem Or (h:kr k d=false) (g:pF k d=false):zG k d=zD (KW k d) k/\IQ k d=0:=by unfold zG IQ;rw[h,g];exact⟨rfl,rfl⟩
end
theorem Pf (j:Rz 6000000 a) (A:Rz 6000000 b):cq 214 [dR a,dR b] [.c (.b (aG a b==0))]:=by apply bE Tryz.func214 rfl;refine ac rfl (jG (az j) (az A)) ?_;exact ae (aj aa)
theorem aaM (hk:GK k) (D:GK d):cq 130 [.a (bG k),.a (bG d)] [.c (.b (kr k d))]:=by
 apply bE Tryz.func130 rfl;refine ac rfl (Pf (az hk.x) (az D.x)) ?_;refine iN (aY rfl) (fun c1 j=>?_);cases c1
 .refine ar (aY rfl)<|ae ?_;rw[show kr k d=false from by unfold kr ue;rw[j];rfl];exact aj aa
 .refine ac rfl (Pf (az hk.y) (az D.y)) ?_;refine iN (aY rfl) (fun c2 A=>?_);cases c2
  .apply ae;rw[show kr k d=false from by unfold kr ue;rw[j,A];rfl];exact aj aa
  .refine ac rfl (Pf (az hk.q) (az D.q))<|ae ?_;rw[show kr k d=(aG k.q d.q==0) from by unfold kr ue;rw[j,A];rfl];exact aj aa
theorem aap (hk:GK k) (A:GK d):cq 215 [.a (bG k),.a (bG d)] [.c (.b (pF k d))]:=by
 apply bE Tryz.func215 rfl;refine ac rfl (jG (az hk.x) (az A.x)) ?_;refine iN (aY rfl) (fun c1 j=>?_);cases c1
 .apply ae;rw[show pF k d=false from by unfold pF ue;rw[j];rfl];exact aj aa
 .refine ac rfl (jG (az hk.y) (az A.y))<|ae ?_;rw[show pF k d=(aG k.y d.y==0) from by unfold pF ue;rw[j];rfl];exact aj aa
theorem ZQ (hk:GK k):cq 285 [.a (bG k)] [dR (DZ k)]:=by refine bE Tryz.func285 rfl<|cm 14 [] ?_;refine aw rfl (iD (az hk.x) (az hk.x)) ?_;refine aw rfl (iD (az hk.y) (az hk.y)) ?_;refine aw rfl (Cd (az (al hk.x hk.x)) (az (al hk.y hk.y))) ?_;refine aw rfl (lj (az (dJ (al hk.x hk.x) (al hk.y hk.y))) (az hk.q)) ?_;exact ae (aN br rfl aa)
theorem agp (hk:GK k) (j:GK d) (A:pF k d=false):cq 216 [.a (bG k),.a (bG d)] [.a (dh (KW k d)),.c (.i .i64 0)]:=by have D:Rz 6000000 (2:Rat):=GE.m_;have f1:Rz 6000000 (DZ k):=(vF hk).m_;have I:Rz 6000000 (DZ d):=(vF j).m_;refine bE Tryz.func216 rfl<|ac rfl (zn (aap hk j) A)<|mL rfl<|ac rfl (dL (oY (by decide) (by decide)) (show((2:Int):Rat)=2 from rfl))<|cm 22 [] ?_;refine aw rfl (lj (az j.x) (az hk.x)) ?_;refine aw rfl (iD Qg (az (ak j.x hk.x))) ?_;refine aw rfl (lj (az j.y) (az hk.y)) ?_;refine aw rfl (iD Qg (az (ak j.y hk.y))) ?_;refine aw rfl (ZQ j) ?_;refine aw rfl (ZQ hk) ?_;refine aw rfl (lj Qg Qg) ?_;refine aq (am P6 OL rfl rfl rfl) ?_;exact ae (aN rG rfl (aj aa))
theorem abk (j:Rz 2000000 a) (A:Rz 2000000 b) (h0:b≠0):cq 326 [dR a,dR b] [dR (a/b)]:=by refine bE Tryz.func326 rfl<|ac rfl (vv j.m_ A.m_ h0)<|mL rfl ?_;exact ae (aN br rfl aa)
theorem QM (j:Rz 2000000 a) (A:Rz 2000000 b) (h0:b≠0):cq 220 [dR a,dR b] [dR (a/b)]:=by refine bE Tryz.func220 rfl<|ac rfl (vv j.m_ A.m_ h0) ?_;exact ae (aN br rfl aa)
theorem aa0 (hl:GL l) (hk:GK k):cq 287 [.a (dh l),.a ((cR k.x++cR k.y))] [.a ((cR (oC l k)++cR (oh l k)))]:=by have v1:=oP hl hk;have j:=j9 hl;have I:=hl.n;have A:=jW hl hk;have D:=jT hl hk;refine bE Tryz.func287 rfl<|cm 15 [] ?_;refine aw rfl (du (az hl.a) (az hk.x)) ?_;refine aw rfl (du (az hl.b) (az hk.y)) ?_;refine aw rfl (mi (az (al hl.a hk.x)) (az (al hl.b hk.y))) ?_;refine aw rfl (pI (az (dJ (al hl.a hk.x) (al hl.b hk.y))) (az hl.c))<|cm 14 [] ?_;refine aw rfl (du (az hl.a) (az hl.a)) ?_;refine aw rfl (du (az hl.b) (az hl.b)) ?_;refine aw rfl (mi (az (al hl.a hl.a)) (az (al hl.b hl.b))) ?_;refine aw rfl ((show cq 326 _ [dR (pt l k.x k.y/iI l)] from abk v1.m_ j.m_ hl.n))<|cm 15 [] ?_;refine aw rfl (du (az (kX ‹_› ‹_› ‹_›)) (az hl.a))<|aw rfl (pI (az hk.x) (az (al (kX ‹_› ‹_› ‹_›) hl.a))) ?_;refine aw rfl (du (az (kX ‹_› ‹_› ‹_›)) (az hl.b))<|aw rfl (pI (az hk.y) (az (al (kX ‹_› ‹_› ‹_›) hl.b)))<|aq (am qa pm rfl rfl rfl) ?_;exact ae (aN YJ rfl aa)
theorem agI (hl:GL l) (hk:GK k):cq 217 [.a (dh l),.a (bG k)] [dR (BY l k),.a ((cR (oC l k)++cR (oh l k)))]:=by have v1:=oP hl hk;have I:=hl.n;have j:=jW hl hk;have A:=jT hl hk;refine bE Tryz.func217 rfl<|ar (am qa pm rfl rfl rfl) ?_;refine ac rfl (aa0 hl hk)<|cm 12 [] ?_;refine aw rfl (lj Qg (az hk.x)) ?_;refine aw rfl (lj Qg (az hk.y))<|cm 11 [] ?_;refine aw rfl (iD (az (ak ‹_› hk.x)) (az (ak ‹_› hk.x))) ?_;refine aw rfl (iD (az (ak ‹_› hk.y)) (az (ak ‹_› hk.y))) ?_;refine aw rfl (Cd (az (al (ak ‹_› hk.x) (ak ‹_› hk.x))) (az (al (ak ‹_› hk.y) (ak ‹_› hk.y)))) ?_;refine aw rfl (lj (az hk.q) (az (dJ (al (ak ‹_› hk.x) (ak ‹_› hk.x)) (al (ak ‹_› hk.y) (ak ‹_› hk.y)))))<|cm 16 [4,5,999999] ?_;refine aw rfl (iD (az hl.a) (az hl.a)) ?_;refine aw rfl (iD (az hl.b) (az hl.b)) ?_;refine aw rfl (Cd (az (al hl.a hl.a)) (az (al hl.b hl.b))) ?_;refine aw rfl ((show cq 220 _ [dR (BY l k)] from by rw[acg hl.n];exact QM ((hk.q.sub (((j.sub hk.x).mul (j.sub hk.x)).add ((A.sub hk.y).mul (A.sub hk.y)))).m_) (j9 hl).m_ hl.n)) ?_;refine DQ.mk<|ig (ff br rfl) rfl rfl rfl rfl<|dY ?_;refine DQ.mk<|ig (ff YJ rfl) rfl rfl rfl rfl<|dY ?_;exact ae (aN br rfl (aN YJ rfl aa))
theorem acE (hl:GL l) (hk:GK k):cq 133 [.a (dh l),.a (bG k)] [.c (.s ((zD l k).length) (aD ah (zD l k)))]:=by
 have J:Rz 200 (BY l k):=ac4 hl hk;have kz:Rz 6000000 (BY l k):=J.m_;have fx:=jW hl hk;have W:=jT hl hk;have A:Rz 100 l.b:=hl.b.m_;have j:Rz 100 l.a:=hl.a.m_;have nz:=Zc hl;apply bE Tryz.func133 rfl;refine ac rfl (agI hl hk) ?_;refine ac rfl bU ?_;refine dg rfl (fun V=>?_) (fun V=>?_)
 .apply ae;rw[aaS (by simpa using V)];exact aj aa
 .refine dg rfl (fun a5=>?_) (fun a5=>?_)
  .refine ac rfl (Mf)<|ar (cb iw rfl rfl rfl (by decide) (by decide) rfl) ?_;apply ae;rw[acI (by simpa using V) (by simpa using a5)];exact aj aa
  .have g1: ¬aG (BY l k) 0= -1:=by simpa using V
   have g2: ¬aG (BY l k) 0=0:=by simpa using a5
   have h0:0<BY l k:=uI (fun h=>g1 (by have:=dH (BY l k) 0;omega)) g2;apply cm 7 [];refine aw rfl (de (az hl.a)) ?_;refine ac rfl bU ?_;refine iN (aY rfl) (fun c3 R=>?_);cases c3
   .refine iN (aY rfl) (fun c4 a4=>?_);cases c4
    .obtain⟨D,I⟩:=U9 (by unfold Zt;rw[R,a4];rfl);refine mL rfl<|cm 20 [] ?_;refine aw rfl (de (az hl.b)) ?_;refine aw rfl (de (az (Rz.neg hl.a))) ?_;refine aw rfl ((show cq 145 _ [.a (ah (M2 l k))] from by unfold M2;rw[D,I];exact rh fx.m_ A.neg W.m_ j.neg.neg J h0 (fun e=>nz ⟨by grind,by grind⟩))) ?_;refine aw rfl ((show cq 145 _ [.a (ah (NJ l k))] from by unfold NJ;rw[D,I];exact rh fx.m_ A W.m_ j.neg J h0 (fun e=>nz ⟨by grind,by grind⟩))) ?_;refine aq (cb iw rfl rfl rfl (by decide) (by decide) rfl) ?_;apply ae;rw[HD g1 g2];exact aj aa
    .refine ac rfl bU ?_;refine dg rfl (fun a3=>?_) (fun a3=>?_)
     .obtain⟨D,I⟩:=TJ (by unfold Zt;rw[R,a4,a3];rfl);apply cm 4 [];refine aw rfl (de (az hl.b)) ?_;refine aw rfl (de (az (Rz.neg hl.a)))<|cm 20 [] ?_;refine aw rfl (de (az (Rz.neg hl.b))) ?_;refine aw rfl (de (az (Rz.neg (Rz.neg hl.a)))) ?_;refine aw rfl ((show cq 145 _ [.a (ah (M2 l k))] from by unfold M2;rw[D,I];exact rh fx.m_ A.neg.neg W.m_ j.neg.neg.neg J h0 (fun e=>nz ⟨by grind,by grind⟩))) ?_;refine aw rfl ((show cq 145 _ [.a (ah (NJ l k))] from by unfold NJ;rw[D,I];exact rh fx.m_ A.neg W.m_ j.neg.neg J h0 (fun e=>nz ⟨by grind,by grind⟩))) ?_;refine aq (cb iw rfl rfl rfl (by decide) (by decide) rfl) ?_;apply ae;rw[HD g1 g2];exact aj aa
     .obtain⟨D,I⟩:=U9 (by unfold Zt;rw[R,a4,a3];rfl);apply cm 20 [];refine aw rfl (de (az hl.b)) ?_;refine aw rfl (de (az (Rz.neg hl.a))) ?_;refine aw rfl ((show cq 145 _ [.a (ah (M2 l k))] from by unfold M2;rw[D,I];exact rh fx.m_ A.neg W.m_ j.neg.neg J h0 (fun e=>nz ⟨by grind,by grind⟩))) ?_;refine aw rfl ((show cq 145 _ [.a (ah (NJ l k))] from by unfold NJ;rw[D,I];exact rh fx.m_ A W.m_ j.neg J h0 (fun e=>nz ⟨by grind,by grind⟩))) ?_;refine aq (cb iw rfl rfl rfl (by decide) (by decide) rfl) ?_;apply ae;rw[HD g1 g2];exact aj aa
   .obtain⟨D,I⟩:=TJ (by unfold Zt;rw[R];rfl);refine DL.mk<|vX (mu rfl)<|iJ ?_;refine n7 rfl<|cm 4 [] ?_;refine aw rfl (de (az hl.b)) ?_;refine aw rfl (de (az (Rz.neg hl.a)))<|cm 20 [] ?_;refine aw rfl (de (az (Rz.neg hl.b))) ?_;refine aw rfl (de (az (Rz.neg (Rz.neg hl.a)))) ?_;refine aw rfl ((show cq 145 _ [.a (ah (M2 l k))] from by unfold M2;rw[D,I];exact rh fx.m_ A.neg.neg W.m_ j.neg.neg.neg J h0 (fun e=>nz ⟨by grind,by grind⟩))) ?_;refine aw rfl ((show cq 145 _ [.a (ah (NJ l k))] from by unfold NJ;rw[D,I];exact rh fx.m_ A.neg W.m_ j.neg.neg J h0 (fun e=>nz ⟨by grind,by grind⟩))) ?_;refine aq (cb iw rfl rfl rfl (by decide) (by decide) rfl) ?_;apply ae;rw[HD g1 g2];exact aj aa
theorem agG (hk:GK k) (D:GK d):cq 132 [.a (bG k),.a (bG d)] [.c (.s ((zG k d).length) (aD ah (zG k d))),.c (.i .i64 (IQ k d))]:=by
 apply bE Tryz.func132 rfl;refine ac rfl (aaM hk D) ?_;refine dg rfl (fun j=>?_) (fun j=>?_)
 .apply ae;rw[(TG j).1,(TG j).2];exact aj (aj aa)
 .refine ac rfl (aap hk D) ?_;refine dg rfl (fun A=>?_) (fun A=>?_)
  .apply ae;rw[(N6 j A).1,(N6 j A).2];exact aj (aj aa)
  .refine ac rfl (agp hk D A)<|ac rfl (acE (Bp hk D A) hk)<|ae ?_;rw[(Or j A).1,(Or j A).2];exact aj (aj aa)
end Go.Proofs.YtegeknjkgadehaaGreat
