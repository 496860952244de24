/-Plain:monotone curves. -/
import Derived.Test.YtegeknjkgadehaaGreatTqL
namespace Go.Proofs.YtegeknjkgadehaaGreat
open Go Go.RowKit
variable {w w2:Bool}{d k:Ci}{l m:Ln}{f p q t u:Pt}{a a1 a2 b b1 b2 c e v x y:Rat}
theorem kX:type_of% @Rz.div:=@Rz.div
def Cv.inner (c:Cv) (p:Pt):Bool:=c.on p&&(!(cP c.p p==0)&& !(cP c.q p==0))
def Cv.mono:Cv->Bool
 | .seg _ p q=> !decide (cP p q>=0)
 | .arc k w p q=> !decide (cP p q>=0)&&(!(Cv.arc k w p q).inner (se k)&& !(Cv.arc k w p q).inner (sv k))
def Cv.vert:Cv->Bool
 | .seg _ p q=>cx p q==0
 | .arc ..=>false
def Aw (k:Ci) (p:Pt):Int:=if kv k p then 0 else 1
theorem adj (h:decide (mh p k.y>0)=false) (g:(mh p k.y==0)=false):Aw k p=1:=by unfold Aw;rw[QC h g];rfl
theorem afj (h:decide (mh p k.y>0)=true):Aw k p=0:=by unfold Aw;rw[ZY h];rfl
theorem agO (h:decide (mh p k.y>0)=false) (g:(mh p k.y==0)=true) (e:decide (zX p k.x>0)=true):Aw k p=0:=by unfold Aw;rw[K9 h g,e];rfl
theorem aey (h:decide (mh p k.y>0)=false) (g:(mh p k.y==0)=true) (e:decide (zX p k.x>0)=false):Aw k p=1:=by unfold Aw;rw[K9 h g,e];rfl
theorem Ru (k:Ci) (p:Pt):0<=Aw k p/\Aw k p<=1:=by unfold Aw;split<;>omega
theorem aaX (h:(Aw k p==Aw k q)=false):nG k p q=Aw k p-Aw k q:=by unfold nG Bm Aw at*;grind
theorem Yw (h:(Aw k p==Aw k q)=true) (g:(Aw k p==0)=true):nG k p q= -cx p q:=by unfold nG Bm Aw at*;grind
theorem YA (h:(Aw k p==Aw k q)=true) (g:(Aw k p==0)=false):nG k p q=cx p q:=by unfold nG Bm Aw at*;grind
theorem Qv (k:Ci) (f p:Pt):0<=rF k f p/\rF k f p<=2:=by unfold rF Pj;repeat' split<;>omega
theorem ace (h:(nG k p f==0)=true):rF k f p=0:=by unfold rF Pj;rw[if_pos (by simpa using h)]
theorem abb (h:(nG k p f==0)=false) (g:decide (nG k p f>0)=true):rF k f p=1:=by unfold rF Pj;rw[if_neg (by simpa using h),if_pos (of_decide_eq_true g)]
theorem ack (h:(nG k p f==0)=false) (g:decide (nG k p f>0)=false):rF k f p=2:=by unfold rF Pj;rw[if_neg (by simpa using h),if_neg (of_decide_eq_false g)]
theorem ae8 (h:(rF k f p==rF k f q)=false):vo k f p q=sg1 (rF k f p-rF k f q):=by unfold vo uZ;rw[if_pos (show Pj (nG k p f)≠Pj (nG k q f) from by simpa [rF] using h)];rfl
theorem aeL (h:(rF k f p==rF k f q)=true):vo k f p q=sg1 (nG k p q):=by unfold vo uZ;rw[if_neg (show ¬Pj (nG k p f)≠Pj (nG k q f) from by simpa [rF] using h)]
theorem aeN {c:Cv}(h:c.on p=false):c.inner p=false:=by unfold Cv.inner;rw[h];rfl
theorem acM {c:Cv}(h:c.on p=true) (g:(!(cP c.p p==0))=false):c.inner p=false:=by unfold Cv.inner;rw[h,g];rfl
theorem aa4 {c:Cv}(h:c.on p=true) (g:(!(cP c.p p==0))=true):c.inner p= !(cP c.q p==0):=by unfold Cv.inner;rw[h,g];rfl
theorem uz {c:Cv}(h:c.supp p=true):c.on p=(decide (c.ord c.p p<=0)&&decide (c.ord p c.q<=0)):=by unfold Cv.on;rw[h,ii]
theorem abx {u q:Rat}(j: ¬(u=0/\v=0)):zcp u v (cc u (zc u q) (zc v q))=q:=by
 unfold zcp;rw[if_neg j];by_cases h:u=0;·rw[Bj h,j6 (fun e=>j ⟨h,e⟩)]
 .rw[sS h,j6 h]
theorem afL {d:Rat}(A:Rz 600 a) (D:Rz 600 b) (I:Rz 600 c) (j:Rz 600 d):cq 356 [.a ((cR a++cR b++cR c)),dR d] [.c (.i .i64 (b8 (a-d) b c))]:=by refine bE Tryz.func356 rfl<|cm 10 [] ?_;refine aw rfl (jC (az A) (az j)) ?_;refine aw rfl (xY (az (ak A j)) (az D) (az I)) ?_;exact ae (aj aa)
theorem ahj (j:GP p) (A:Rz 600 v):cq 356 [.a ((cR p.a1++cR p.b1++cR (zc p.b1 p.c))),dR v] [.c (.i .i64 (zX p v))]:=afL (j.a1.mono (by decide)) (j.b1.mono (by decide)) (gN (j.c.mono (by decide)) (by decide)) A
theorem air (j:GP p) (A:Rz 600 v):cq 356 [.a ((cR p.a2++cR p.b2++cR (zc p.b2 p.c))),dR v] [.c (.i .i64 (mh p v))]:=afL (j.a2.mono (by decide)) (j.b2.mono (by decide)) (gN (j.c.mono (by decide)) (by decide)) A
theorem yCX (j:GP p) (A:GP q):cq 208 [.a ((cR p.a1++cR p.b1++cR (zc p.b1 p.c))),.a ((cR q.a1++cR q.b1++cR (zc q.b1 q.c)))] [.c (.i .i64 (cx p q))]:=Jp (j.a1.mono (by decide)) (j.b1.mono (by decide)) (gN (j.c.mono (by decide)) (by decide)) (A.a1.mono (by decide)) (A.b1.mono (by decide)) (gN (A.c.mono (by decide)) (by decide))
theorem yCY (j:GP p) (A:GP q):cq 208 [.a ((cR p.a2++cR p.b2++cR (zc p.b2 p.c))),.a ((cR q.a2++cR q.b2++cR (zc q.b2 q.c)))] [.c (.i .i64 (cy p q))]:=Jp (j.a2.mono (by decide)) (j.b2.mono (by decide)) (gN (j.c.mono (by decide)) (by decide)) (A.a2.mono (by decide)) (A.b2.mono (by decide)) (gN (A.c.mono (by decide)) (by decide))
theorem Ag (A:GP p) (D:GP q):cq 127 [.a (ah p),.a (ah q)] [.c (.i .i64 (cP p q))]:=by
 refine bE Tryz.func127 rfl<|cm 6 [] ?_;refine aw rfl AE ?_;refine aw rfl AE ?_;refine aw rfl (yCX A D) ?_;refine dg rfl (fun j=>?_) (fun j=>?_)
 .apply ae;rw[aiG j];exact aj aa
 .apply cm 6 [];refine aw rfl G0 ?_;refine aw rfl G0 ?_;refine aw rfl (yCY A D)<|ae ?_;rw[ahH j];exact aj aa
theorem aeZ (j:GP p) (A:GP q):cq 157 [.a (ah p),.a (ah q)] [.c (.b (cP p q==0))]:=by apply bE Tryz.func157 rfl;refine ac rfl (Ag j A) ?_;exact ae (aj aa)
theorem jB (j:Rz 6000000 x) (A:Rz 6000000 y):cq 267 [dR x,dR y] [dR (x+y)]:=by refine bE Tryz.func267 rfl<|ac rfl (gW (az j) (az A)) ?_;exact ae (aN br rfl aa)
theorem fJ (j:Rz 6000000 x) (A:Rz 6000000 y):cq 266 [dR x,dR y] [dR (x-y)]:=by refine bE Tryz.func266 rfl<|ac rfl (jC (az j) (az A)) ?_;exact ae (aN br rfl aa)
theorem cz (j:Rz 6000000 x) (A:Rz 6000000 y):cq 268 [dR x,dR y] [dR (x*y)]:=by refine bE Tryz.func268 rfl<|ac rfl (dw (az j) (az A)) ?_;exact ae (aN br rfl aa)
theorem It (j:Rz 6000000 x) (A:Rz 6000000 y) (h0:y≠0):cq 270 [dR x,dR y] [dR (x/y)]:=by refine bE Tryz.func270 rfl<|ac rfl (DM j A h0) ?_;exact ae (aN br rfl aa)
theorem rR (j:Rz 6000000 x) (A:Rz 6000000 y):cq 322 [dR x,dR y] [dR (x+y)]:=by refine bE Tryz.func322 rfl<|ac rfl (gW (az j) (az A)) ?_;exact ae (aN br rfl aa)
theorem jz (j:Rz 6000000 x) (A:Rz 6000000 y):cq 277 [dR x,dR y] [dR (x-y)]:=by refine bE Tryz.func277 rfl<|ac rfl (jC (az j) (az A)) ?_;exact ae (aN br rfl aa)
theorem eE (j:Rz 6000000 x) (A:Rz 6000000 y):cq 278 [dR x,dR y] [dR (x*y)]:=by refine bE Tryz.func278 rfl<|ac rfl (dw (az j) (az A)) ?_;exact ae (aN br rfl aa)
theorem vq (j:Rz 6000000 x) (A:Rz 6000000 y) (h0:y≠0):cq 275 [dR x,dR y] [dR (x/y)]:=by refine bE Tryz.func275 rfl<|ac rfl (DM j A h0) ?_;exact ae (aN br rfl aa)
theorem yM (j:Rz 6000000 x):cq 265 [dR x] [dR (-x)]:=by refine bE Tryz.func265 rfl<|ac rfl (lg (az j)) ?_;exact ae (aN br rfl aa)
theorem Xn {w:Rat}(j:Rz 6000000 v) (A:Rz 6000000 w):cq 360 [.a ((cR v++cR w))] [.a ((cR (-v)++cR (-w)))]:=by refine bE Tryz.func360 rfl<|cm 7 [] ?_;refine aw rfl (lg (az j)) ?_;refine aw rfl (lg (az A)) ?_;refine aq (am qa pm rfl rfl rfl) ?_;exact ae (aN YJ rfl aa)
theorem Rl {w:Rat}(D:Rz 6000000 v) (I:Rz 6000000 w) (A:Rz 6000000 a1) (j:Rz 6000000 a2):cq 359 [.a ((cR a1++cR b1++cR a2++cR b2++cR c)),.a ((cR v++cR w))] [.a ((cR (a1+v)++cR b1++cR (a2+w)++cR b2++cR c))]:=by refine dP Tryz.func359 22 [.cell 4 42] rfl<|ab<|ag<|ab<|ou 17 rfl rfl<|eJ 1<|bp (jj (cR a1) br rfl)<|eJ 1<|bp (jj (cR v) br rfl)<|bp (iW rfl (gW (az A) (az D)))<|eJ 1<|bp (jj (cR b1) br rfl)<|eJ 1<|bp (jj (cR a2) br rfl) ?_;refine eJ 1<|bp (jj (cR w) br rfl)<|bp (iW rfl (gW (az j) (az I)))<|eJ 1<|bp (jj (cR b2) br rfl)<|eJ 1<|bp (jj (cR c) br rfl)<|bp (am D7 Bb rfl rfl rfl) ?_;refine mD<|eP<|gm<|aU ?_;exact ae (aN bb rfl aa)
theorem FF (J:Rz 60000 a1) (j:Rz 60000 b1) (I:Rz 60000 a2) (A:Rz 60000 b2) (R:Rz 60000 c) (v1:xm b1 b2 c=true) {d:Rat}(W:Rz 60000 d) (he:Rz 60000 e):cq 335 [.a ((cR a1++cR b1++cR a2++cR b2++cR c)),.a ((cR d++cR e))] [.a ((cR (MB (a1-d) (a2-e) b1 b2 c)++cR (Pw (a1-d) (a2-e) b1 b2)++cR (zc (Pw (a1-d) (a2-e) b1 b2) c)))]:=by
 have a5:Rz 6000000 a1:=J.m_;have a4:Rz 6000000 b1:=j.m_;have a3:Rz 6000000 a2:=I.m_;have a6:Rz 6000000 b2:=A.m_;have kc:Rz 6000000 c:=R.m_;have kd:Rz 6000000 d:=W.m_;have ke:Rz 6000000 e:=he.m_;have u1:Rz 140000 (a1-d):=(J.sub W).m_;have D:Rz 140000 (a2-e):=(I.sub he).m_;have k3:Rz 6000000 (-d):=kd.neg;have k4:Rz 6000000 (-e):=ke.neg;have V:=aeC v1;have x1:Rz 1000000 (a1-d):=u1.m_;have x2:Rz 1000000 (a2-e):=D.m_;have y1:Rz 1000000 b1:=j.m_;have y2:Rz 1000000 b2:=A.m_;have hC:Rz 1000000 c:=R.m_;have z1:Rz 1000000 (zc b1 c):=gN hC (by decide);have z2:Rz 1000000 (zc b2 c):=gN hC (by decide);have A1:Rz 1000000 ((a1-d)*(a1-d)+b1*b1*c):=((u1.mul u1).add ((j.mul j).mul R)).m_;have A2:Rz 1000000 ((a2-e)*(a2-e)+b2*b2*c):=((D.mul D).add ((A.mul A).mul R)).m_;have B1:Rz 1000000 ((a1-d)*b1+(a1-d)*b1):=((u1.mul j).add (u1.mul j)).m_;have B2:Rz 1000000 ((a2-e)*b2+(a2-e)*b2):=((D.mul A).add (D.mul A)).m_;have C1:Rz 1000000 (zc ((a1-d)*b1+(a1-d)*b1) c):=gN hC (by decide);have C2:Rz 1000000 (zc ((a2-e)*b2+(a2-e)*b2) c):=gN hC (by decide);have nS:((a1-d)*b1+(a1-d)*b1)+((a2-e)*b2+(a2-e)*b2)≠0->c≠0:=fun h=>by rw[Qa] at h;have:=(RT v1 h).1;grind
 refine bE Tryz.func335 rfl<|cm 5 [] ?_;refine aw rfl (Xn ‹_› ‹_›) ?_;refine aw rfl (Rl ‹_› ‹_› ‹_› ‹_›)<|cm 13 [6,999999] ?_;refine aw rfl (Cc AE (E1 _ _) rfl rfl) ?_;refine aw rfl (Cc (IV x1 y1 z1) ago (aeu V.1) (afx V.1)) ?_;refine aw rfl (Cc G0 (E1 _ _) rfl rfl) ?_;refine aw rfl (Cc (IV x2 y2 z2) ago (aeu V.2) (afx V.2)) ?_;refine aw rfl (qT (PC A1 B1 C1 A2 B2 C2 acj) (aej _ _ _ _ _) ((aim nS).trans (Qa _ _ _ _)) ((aix nS).trans (by rw[Qa]))) ?_;refine DQ.mk<|kZ (ff gT rfl) rfl rfl rfl rfl<|dY ?_;exact ae (aN gT rfl aa)
theorem aew (A:GK k) (j:GB p):cq 335 [.a (ah p),.a ((cR k.x++cR k.y))] [.a ((cR (MB (p.a1-k.x) (p.a2-k.y) p.b1 p.b2 p.c)++cR (HC k p)++cR (zc (HC k p) p.c)))]:=FF (j.a1.mono (by decide)) (j.b1.mono (by decide)) (j.a2.mono (by decide)) (j.b2.mono (by decide)) (j.c.mono (by decide)) j.v (A.x.mono (by decide)) (A.y.mono (by decide))
theorem aet (j:GK k) (A:GB p):cq 304 [.a (bG k),.a (ah p)] [.a ((cR (PU k p)++cR (HC k p)++cR (zc (HC k p) p.c)))]:=by have I:Rz 6000000 (MB (p.a1-k.x) (p.a2-k.y) p.b1 p.b2 p.c):=(QV j A).m_;have D:Rz 6000000 k.q:=j.q.m_;have s3:Rz 6000000 (-k.q):=D.neg;refine bE Tryz.func304 rfl<|cm 11 [] ?_;refine aq (am qa pm rfl rfl rfl) ?_;refine aw rfl (aew j A) ?_;refine aw rfl (lg Qg) ?_;refine aw rfl (HU ‹_› ‹_›) ?_;exact ae (aN gT rfl aa)
theorem abc (A:GK k) (j:GB p):cq 233 [.a (bG k),.a (ah p)] [.c (.i .i64 (kq k p))]:=by apply bE Tryz.func233 rfl;refine ac rfl (aet A j) ?_;refine ac rfl (Cm ((T5 A j).m_) ((Q2 A j).m_) (gN j.c.m_ (by decide))) ?_;refine ar (fG rfl (AU (U8 _ _ _)) rfl) ?_;exact ae (aj aa)
theorem agq (A:GK k) (j:GP p):cq 233 [.a (bG k),.a (ah p)] [.c (.i .i64 (kq k p))]:=abc A j.gb
theorem Ra (hl:GL l) (j:GP p) (hs:jy p.c=true):cq 305 [.a (dh l),.a (ah p)] [.a ((cR (vA l p+vB l p*rt p.c)++cR 0++cR 0))]:=by refine bE Tryz.func305 rfl<|cm 15 [] ?_;refine aw rfl (cz (az hl.a) (az j.a1)) ?_;refine aw rfl (cz (az hl.b) (az j.a2)) ?_;refine aw rfl (jB (az (al hl.a j.a1)) (az (al hl.b j.a2))) ?_;refine aw rfl (fJ (az (dJ (al hl.a j.a1) (al hl.b j.a2))) (az hl.c))<|cm 21 [6,999999] ?_;refine aw rfl (cz (az hl.a) (az j.b1)) ?_;refine aw rfl (cz (az hl.b) (az j.b2)) ?_;refine aw rfl (jB (az (al hl.a j.b1)) (az (al hl.b j.b2))) ?_;refine aw rfl (CU ((NZ hl j).m_) ((Nr hl j).m_) j.c.m_ (fun h=>absurd h (Rat.not_lt.2 (ye j.v))) hs) ?_;refine DQ.mk<|kZ (ff gT rfl) rfl rfl rfl rfl<|dY ?_;exact ae (aN gT rfl aa)
theorem Uy (hl:GL l) (j:GP p) (hs:jy p.c=false):cq 305 [.a (dh l),.a (ah p)] [.a ((cR (vA l p)++cR (rB (vB l p) p.c)++cR (rC (vB l p) p.c)))]:=by refine bE Tryz.func305 rfl<|cm 15 [] ?_;refine aw rfl (cz (az hl.a) (az j.a1)) ?_;refine aw rfl (cz (az hl.b) (az j.a2)) ?_;refine aw rfl (jB (az (al hl.a j.a1)) (az (al hl.b j.a2))) ?_;refine aw rfl (fJ (az (dJ (al hl.a j.a1) (al hl.b j.a2))) (az hl.c))<|cm 21 [6,999999] ?_;refine aw rfl (cz (az hl.a) (az j.b1)) ?_;refine aw rfl (cz (az hl.b) (az j.b2)) ?_;refine aw rfl (jB (az (al hl.a j.b1)) (az (al hl.b j.b2))) ?_;refine aw rfl (Dl ((NZ hl j).m_) ((Nr hl j).m_) j.c.m_ (fun h=>absurd h (Rat.not_lt.2 (ye j.v))) hs) ?_;refine DQ.mk<|kZ (ff gT rfl) rfl rfl rfl rfl<|dY ?_;exact ae (aN gT rfl aa)
theorem aeh (hl:GL l) (j:GP p):cq 305 [.a (dh l),.a (ah p)] [.a ((cR (vA l p)++cR (rB (vB l p) p.c)++cR (rC (vB l p) p.c)))]:=by
 cases hs:jy p.c with
 |true=>obtain⟨e1,D,A⟩:=acs j.v hs;exact Cc (Ra hl j hs) e1 D A
 |false=>exact Uy hl j hs
theorem acu (hl:GL l) (j:GP p):cq 234 [.a (dh l),.a (ah p)] [.c (.i .i64 (gf l p))]:=by apply bE Tryz.func234 rfl;refine ac rfl (aeh hl j) ?_;refine ac rfl (Cm ((NZ hl j).m_) (af5 ((Nr hl j).m_) (by decide)) (af1 j.c.m_ (by decide))) ?_;exact ae (aj aa)
theorem Z6 (I:GK k) (D:GP p):cq 325 [.a (bG k),.a (ah p)] [.c (.b (kv k p))]:=by
 refine bE Tryz.func325 rfl<|cm 6 [] ?_;refine aw rfl G0 ?_;refine aw rfl (air D I.y.m_)<|cm 15 [] ?_;refine zQ (aY rfl) (fun c1 j=>?_);cases c1
 .refine zQ (aY rfl) (fun c2 A=>?_);cases c2
  .apply ae;rw[QC j A];exact aj aa
  .refine aw rfl AE ?_;refine aw rfl (ahj D I.x.m_)<|ae ?_;rw[K9 j A];exact aj aa
 .refine DQ.mk<|sM (mu rfl)<|dY ?_;apply ae;rw[ZY j];exact aj aa
theorem Vl (R:GK k) (I:GP p) (J:GP q):cq 283 [.a (bG k),.a (ah p),.a (ah q)] [.c (.i .i64 (gE k p q))]:=by
 refine bE Tryz.func283 rfl<|cm 8 [] ?_;refine aw rfl (Z6 R I) ?_;refine aw rfl (Z6 R J) ?_;refine ar (eA rfl rfl dX rfl) ?_;refine dg rfl (fun j=>?_) (fun j=>?_)
 .refine dg rfl (fun D=>?_) (fun D=>?_)
  .apply ae;rw[YE j D];exact aj aa
  .apply ae;rw[QF j D];exact aj aa
 .apply cm 6 [];refine aw rfl AE ?_;refine aw rfl AE ?_;refine aw rfl (yCX I J) ?_;refine dg rfl (fun A=>?_) (fun A=>?_)
  .refine ar (fG rfl (AU (dO p q)) rfl) ?_;apply ae;rw[Ta j A];exact aj aa
  .apply ae;rw[S2 j A];exact aj aa
theorem ZA (D:GK k) (R:GP f) (I:GP p) (J:GP q):cq 211 [.a (bG k),.a (ah f),.a (ah p),.a (ah q)] [.c (.i .i64 (tG k f p q))]:=by
 refine bE Tryz.func211 rfl<|cm 12 [] ?_;refine aw rfl (Vl D I R) ?_;refine aw rfl (Vl D J R) ?_;refine ar (eA rfl rfl dX rfl) ?_;refine dg rfl (fun j=>?_) (fun j=>?_)
 .refine dg rfl (fun A=>?_) (fun A=>?_)
  .apply ae;rw[afh j A];exact aj aa
  .apply ae;rw[ac1 j A];exact aj aa
 .refine ac rfl (Vl D I J)<|ae ?_;rw[afz j];exact aj aa
theorem Hp (j:GP p):cq 213 [.a (ah p)] [.a (ah p.flip)]:=by refine bE Tryz.func213 rfl<|cm 7 [] ?_;refine aw rfl (lg j.a1.m_) ?_;refine aw rfl (lg j.b1.m_) ?_;refine n6 (aV br rfl rfl rfl rfl (fU rfl) rfl rfl) ?_;refine n6 (aV br rfl rfl rfl rfl (fU rfl) rfl rfl) ?_;exact ae (aN bb rfl aa)
theorem ae4 (A:GK k) (D:GP f) (j:GP t):cq 212 [.a (([.b true]++lp++bG k++[.b w]++ah f++ah t))] [.a (([.b true]++lp++bG k.mir++[.b (!w)]++ah f.flip++ah t.flip))]:=by refine dP Tryz.func212 22 [.cell 2 53] rfl<|ab<|ag<|ab<|ag ?_;refine ar (df (cR k.x) br rfl (by kernel_rfl)) ?_;refine ac rfl (lg A.x.m_) ?_;refine n6 (aV (us:=([.b true]++lp++(cR k.mir.x++cR k.y++cR k.q)++[.b w]++ah f++ah t)) br rfl rfl rfl rfl (fU (by kernel_rfl)) (by kernel_rfl) rfl) ?_;refine ab<|qo 13 [1,999999] d9 (by kernel_rfl) rfl rfl<|eJ 1<|AM (by kernel_rfl) (df (ah f) bb rfl (by kernel_rfl))<|bp (iW rfl (Hp D))<|eJ 1<|AM (by kernel_rfl) (df (ah t) bb rfl (by kernel_rfl))<|bp (iW rfl (Hp j))<|eJ 1<|AM (by kernel_rfl) (bg gC rfl)<|eJ 2<|ig (aV (us:=([.b true]++lp++(cR k.mir.x++cR k.y++cR k.q)++[.b w]++ah f.flip++ah t)) bb rfl rfl rfl rfl (fU (by kernel_rfl)) (by kernel_rfl) rfl) rfl rfl rfl rfl ?_;refine eJ 1<|Ka (aV (us:=([.b true]++lp++(cR k.mir.x++cR k.y++cR k.q)++[.b w]++ah f.flip++ah t.flip)) bb rfl rfl rfl rfl (fU (by kernel_rfl)) (by kernel_rfl) rfl) rfl rfl (by kernel_rfl) rfl ?_;refine mD<|Py<|cZ 1<|gS (aV (us:=([.b true]++lp++(cR k.mir.x++cR k.y++cR k.q)++[.b (!w)]++ah f.flip++ah t.flip)) gC rfl rfl rfl rfl (fU (by kernel_rfl)) (by kernel_rfl) rfl) ?_;refine bO<|ab<|ag ?_;refine ar (lW ba rfl) ?_;refine n6 (ff ba rfl)<|aU ?_;exact ae (fX ba rfl rfl (by kernel_rfl) (by kernel_rfl) aa)
theorem LI (_hl:GL l) (J:GP f) (A:GP t) (D:GP p) (I:GP q):cq 129 [.a (([.b false]++dh l++g9++[.b false]++ah f++ah t)),.a (ah p),.a (ah q)] [.c (.i .i64 ((Cv.seg l f t).ord p q))]:=by
 apply bE Tryz.func129 rfl;refine ar (bg gC rfl) ?_;apply n7 rfl;refine ac rfl (Ag D I) ?_;refine ar (df (ah f) bb rfl (by kernel_rfl)) ?_;refine ar (df (ah t) bb rfl (by kernel_rfl)) ?_;refine ac rfl (Ag J A) ?_;refine dg rfl (fun j=>?_) (fun j=>?_)
 .refine ar (fG rfl (AU (Ex p q)) rfl) ?_;apply ae;rw[adO j];exact aj aa
 .apply ae;rw[adm j];exact aj aa
theorem K1 (D:GK k) (J:GP f) (R:GP t) (A:GP p) (I:GP q):cq 129 [.a (([.b true]++lp++bG k++[.b w]++ah f++ah t)),.a (ah p),.a (ah q)] [.c (.i .i64 ((Cv.arc k w f t).ord p q))]:=by
 apply bE Tryz.func129 rfl;refine ar (bg gC rfl) ?_;apply mL rfl;refine ar (bg gC rfl) ?_;refine dg rfl (fun j=>?_) (fun j=>?_)
 .refine ar (df (bG k) n9 rfl (by kernel_rfl)) ?_;refine ar (df (ah f) bb rfl (by kernel_rfl)) ?_;refine ac rfl (ZA D J A I)<|ae ?_;rw[adN j];exact aj aa
 .refine ar (lW ba rfl)<|ac rfl (ae4 D J R)<|n6 (ff ba rfl)<|cm 10 [] ?_;refine aq (df (bG k.mir) n9 rfl (by kernel_rfl)) ?_;refine aq (df (ah f.flip) bb rfl (by kernel_rfl)) ?_;refine aw rfl (Hp A) ?_;refine aw rfl (Hp I) ?_;refine aw rfl (ZA (GK.mir D) (GP.flip J) (GP.flip A) (GP.flip I))<|ae ?_;rw[adG j];exact aj aa
theorem adk (hl:GL l) (_D:GP f) (_A:GP t) (j:GP p):cq 156 [.a (([.b false]++dh l++g9++[.b false]++ah f++ah t)),.a (ah p)] [.c (.b ((Cv.seg l f t).supp p))]:=by apply bE Tryz.func156 rfl;refine ar (bg gC rfl) ?_;apply mL rfl;refine ar (df (dh l) rG rfl (by kernel_rfl)) ?_;refine ac rfl (acu hl j) ?_;exact ae (aj aa)
theorem aaQ (A:GK k) (_I:GP f) (_D:GP t) (j:GP p):cq 156 [.a (([.b true]++lp++bG k++[.b w]++ah f++ah t)),.a (ah p)] [.c (.b ((Cv.arc k w f t).supp p))]:=by apply bE Tryz.func156 rfl;refine ar (bg gC rfl) ?_;apply n7 rfl;refine ar (df (bG k) n9 rfl (by kernel_rfl)) ?_;refine ac rfl (agq A j) ?_;exact ae (aj aa)
theorem agf (hl:GL l) (D:GP f) (I:GP t) (J:GP p):cq 125 [.a (([.b false]++dh l++g9++[.b false]++ah f++ah t)),.a (ah p)] [.c (.b ((Cv.seg l f t).on p))]:=by
 apply bE Tryz.func125 rfl;refine ar (lW ba rfl) ?_;refine ac rfl (adk hl D I J) ?_;refine iN (aY rfl) (fun c1 j=>?_);cases c1
 .refine ar (aY rfl)<|ae ?_;rw[aev j];exact aj aa
 .refine ar (lW ba rfl) ?_;refine ar (df (ah f) bb rfl (by kernel_rfl)) ?_;refine ac rfl (LI hl D I D J) ?_;refine iN (aY rfl) (fun c2 A=>?_);cases c2
  .apply ae;rw[Zl j A];exact aj aa
  .refine ar (lW ba rfl) ?_;refine ar (df (ah t) bb rfl (by kernel_rfl)) ?_;refine ac rfl (LI hl D I J I)<|ae ?_;rw[aaN j A];exact aj aa
theorem agD (R:GK k) (D:GP f) (I:GP t) (J:GP p):cq 125 [.a (([.b true]++lp++bG k++[.b w]++ah f++ah t)),.a (ah p)] [.c (.b ((Cv.arc k w f t).on p))]:=by
 apply bE Tryz.func125 rfl;refine ar (lW ba rfl) ?_;refine ac rfl (aaQ R D I J) ?_;refine iN (aY rfl) (fun c1 j=>?_);cases c1
 .refine ar (aY rfl)<|ae ?_;rw[aev j];exact aj aa
 .refine ar (lW ba rfl) ?_;refine ar (df (ah f) bb rfl (by kernel_rfl)) ?_;refine ac rfl (K1 R D I D J) ?_;refine iN (aY rfl) (fun c2 A=>?_);cases c2
  .apply ae;rw[Zl j A];exact aj aa
  .refine ar (lW ba rfl) ?_;refine ar (df (ah t) bb rfl (by kernel_rfl)) ?_;refine ac rfl (K1 R D I J I)<|ae ?_;rw[aaN j A];exact aj aa
theorem adB (_hl:GL l) (_A:GP f) (_j:GP t):cq 128 [.a (([.b false]++dh l++g9++[.b false]++ah f++ah t))] [.a (([.b false]++dh l++g9++[.b false]++ah t++ah f))]:=by refine bE Tryz.func128 rfl<|ar (df (ah t) bb rfl (by kernel_rfl)) ?_;refine ar (df (ah f) bb rfl (by kernel_rfl)) ?_;refine n6 (aV (us:=([.b false]++dh l++g9++[.b false]++ah t++ah t)) bb rfl rfl rfl rfl (fU (by kernel_rfl)) (by kernel_rfl) rfl) ?_;refine n6 (aV (us:=([.b false]++dh l++g9++[.b false]++ah t++ah f)) bb rfl rfl rfl rfl (fU (by kernel_rfl)) (by kernel_rfl) rfl) ?_;refine ar (bg gC rfl)<|ar (aY rfl) ?_;refine n6 (aV (us:=([.b false]++dh l++g9++[.b false]++ah t++ah f)) gC rfl rfl rfl rfl (fU (by kernel_rfl)) (by kernel_rfl) rfl) ?_;refine ar (lW ba rfl) ?_;refine n6 (ff ba rfl) ?_;exact ae (fX ba rfl rfl (by kernel_rfl) (by kernel_rfl) aa)
theorem acB (_A:GK k) (_D:GP f) (_j:GP t):cq 128 [.a (([.b true]++lp++bG k++[.b w]++ah f++ah t))] [.a (([.b true]++lp++bG k++[.b (!w)]++ah t++ah f))]:=by refine bE Tryz.func128 rfl<|ar (df (ah t) bb rfl (by kernel_rfl)) ?_;refine ar (df (ah f) bb rfl (by kernel_rfl)) ?_;refine n6 (aV (us:=([.b true]++lp++bG k++[.b w]++ah t++ah t)) bb rfl rfl rfl rfl (fU (by kernel_rfl)) (by kernel_rfl) rfl) ?_;refine n6 (aV (us:=([.b true]++lp++bG k++[.b w]++ah t++ah f)) bb rfl rfl rfl rfl (fU (by kernel_rfl)) (by kernel_rfl) rfl) ?_;refine ar (bg gC rfl)<|ar (aY rfl) ?_;refine ar (bg gC rfl) ?_;refine n6 (aV (us:=([.b true]++lp++bG k++[.b (!w)]++ah t++ah f)) gC rfl rfl rfl rfl (fU (by kernel_rfl)) (by kernel_rfl) rfl) ?_;refine ar (lW ba rfl) ?_;refine n6 (ff ba rfl) ?_;exact ae (fX ba rfl rfl (by kernel_rfl) (by kernel_rfl) aa)
theorem sj {d f:Rat}(I:Rz 2000000 a) (D:Rz 160000 b) (J:Rz 160000 c) (j:Rz 2000000 d) (R:Rz 160000 e) (A:Rz 160000 f) (h1:Rz 160000 (a-d)) (c0:0<=c) (f0:0<=f):cq 12 [.a (cR a++cR b++cR c),.a (cR d++cR e++cR f)] [.c (.i .i64 (mY (a-d) b (-e) 0 c f))]:=rq (CC I D J j R A h1) ((Nq c0 f0).trans (AA c0 f0).symm)
theorem TP {P:Program}{f:FuncId}{j:List D0}{x A:Int}(h:Ok P f j [dI x]) (e:x=A):Ok P f j [dI A]:=by subst e;exact h
def PX (a b c:Rat):Rat:=1/(a*a-b*b*c)
def yV (a b c:Rat):Int:=if aG b 0=0\/aG a 0=aG b 0 then aG a 0 else if aG a 0=0 then aG b 0 else aG a 0*aG (a*a-b*b*c) 0
section
variable {a b c:Rat}
theorem acd (h:(aG b 0==0)=true):yV a b c=aG a 0:=by unfold yV;rw[if_pos (.inl (by simpa using h))]
theorem abd (h:(aG a 0==aG b 0)=true):yV a b c=aG a 0:=by unfold yV;rw[if_pos (.inr (by simpa using h))]
theorem acL (h:(aG b 0==0)=false) (j:(aG a 0==aG b 0)=false) (A:(aG a 0==0)=true):yV a b c=aG b 0:=by unfold yV;rw[if_neg (fun e=>e.elim (by simpa using h) (by simpa using j)),if_pos (by simpa using A)]
theorem acb (h:(aG b 0==0)=false) (j:(aG a 0==aG b 0)=false) (A:(aG a 0==0)=false):yV a b c=aG a 0*aG (a*a-b*b*c) 0:=by unfold yV;rw[if_neg (fun e=>e.elim (by simpa using h) (by simpa using j)),if_neg (by simpa using A)]
end
theorem Aj:cq 186 [] [dR 0]:=by refine bE Tryz.func186 rfl<|ac rfl (yS (by omega) (by omega)) ?_;apply ae;rw[Od];exact aN br rfl aa
theorem oS:cq 293 [dR a,dR b,dR c] [.a ((cR a++cR b++cR (zc b c)))]:=by
 refine bE Tryz.func293 rfl<|ac rfl rK ?_;refine dg rfl (fun j=>?_) (fun j=>?_)
 .refine ac rfl Aj ?_;refine ar (am wO wm rfl rfl rfl) ?_;apply ae;rw[D6 (rb j)];exact aN gT rfl aa
 .refine ar (am wO wm rfl rfl rfl) ?_;apply ae;rw[j6 (n8 j)];exact aN gT rfl aa
theorem Io {k:Rat}(A:Rz 6000000 a) (D:Rz 6000000 b) (j:Rz 6000000 k):cq 332 [.a ((cR a++cR b++cR c)),dR k] [.a ((cR (a*k)++cR (b*k)++cR (zc (b*k) c)))]:=by refine bE Tryz.func332 rfl<|cm 11 [] ?_;refine aw rfl (dd (az A) (az j)) ?_;refine aw rfl (dd (az D) (az j)) ?_;refine aw rfl oS ?_;exact ae (aN gT rfl aa)
theorem jk:cq 106 [dR a] [.a ((cR a++cR 0++cR 0))]:=by refine bE Tryz.func106 rfl<|cm 4 [] ?_;refine aw rfl Aj ?_;refine aw rfl Aj ?_;refine aq (am wO wm rfl rfl rfl) ?_;exact ae (aN gT rfl aa)
theorem Pp (j:Rz 6000000 a) (A:Rz 6000000 b):cq 301 [.a ((cR a++cR b++cR c))] [.a ((cR (-a)++cR (-b)++cR c))]:=by refine bE Tryz.func301 rfl<|cm 9 [] ?_;refine aw rfl (de (az j)) ?_;refine aw rfl (de (az A)) ?_;refine aq (am wO wm rfl rfl rfl) ?_;exact ae (aN gT rfl aa)
theorem Cl (A:Rz 1000000 a) (j:Rz 1000000 b) (D:Rz 1000000 c):cq 88 [.a ((cR a++cR b++cR c))] [dR (a*a-b*b*c)]:=by refine bE Tryz.func88 rfl<|cm 14 [] ?_;refine aw rfl (dd (az A) (az A)) ?_;refine aw rfl (dd (az j) (az j)) ?_;refine aw rfl (dd (az (al j j)) (az D)) ?_;refine aw rfl (jS (az (al A A)) (az (al (al j j) D))) ?_;exact ae (aN br rfl aa)
theorem Da (R:Rz 1000000 a) (J:Rz 1000000 b) (V:Rz 1000000 c):cq 29 [.a ((cR a++cR b++cR c))] [.c (.i .i64 (yV a b c))]:=by
 have I:=go (dH a 0) (dH (a*a-b*b*c) 0);refine bE Tryz.func29 rfl<|cm 8 [] ?_;refine aw rfl bU ?_;refine aw rfl bU ?_;refine iN (aY rfl) (fun c1 D=>?_);cases c1
 .refine dg rfl (fun j=>?_) (fun j=>?_)
  .apply ae;rw[abd j];exact aj aa
  .refine dg rfl (fun A=>?_) (fun A=>?_)
   .apply ae;rw[acL D j A];exact aj aa
   .refine ac rfl (Cl ‹_› ‹_› ‹_›)<|ac rfl (bU)<|ar (ca ((aG a 0)*(aG (a*a-b*b*c) 0)) (dz (by omega) (by omega)) rfl)<|ae ?_;rw[acb D j A];exact aj aa
 .refine n7 rfl<|ae ?_;rw[acd D];exact aj aa
theorem LP {d f:Rat}(I:Rz 2000000 a) (D:Rz 160000 b) (J:Rz 160000 c) (j:Rz 2000000 d) (R:Rz 160000 e) (A:Rz 160000 f) (h1:Rz 160000 (a-d)) (c0:0<=c) (f0:0<=f):cq 41 [.a ((cR a++cR b++cR c)),.a ((cR d++cR e++cR f))] [.c (.b (mY (a-d) b (-e) 0 c f==0))]:=by apply bE Tryz.func41 rfl;refine ac rfl (sj ‹_› ‹_› ‹_› ‹_› ‹_› ‹_› ‹_› ‹_› ‹_›) ?_;exact ae (aj aa)
theorem A5 {d:Rat}(I:Rz 2000000 a) (D:Rz 160000 b) (J:Rz 160000 c) (A:Rz 2000000 d) (h1:Rz 160000 (a-d)) (c0:0<=c):cq 39 [.a ((cR a++cR b++cR c)),dR d] [.c (.i .i64 (mY (a-d) b (-0) 0 c 0))]:=by have j:Rz 160000 (0:Rat):=iH (by decide);refine bE Tryz.func39 rfl<|cm 5 [] ?_;refine aw rfl jk ?_;refine aw rfl (sj ‹_› ‹_› ‹_› ‹_› j j h1 c0 Rat.le_refl) ?_;exact ae (aj aa)
theorem MP {d:Rat}(j:0<=c):mY (a-d) b (-0) 0 c 0=b8 (a-d) b c:=by rw[AA j Rat.le_refl,io j];exact congrArg bz (fj fun n=>by unfold fE;simp only[bF,bo,bV,dy];grind)
theorem sR (j:GP p) (A:GP q):cq 21 [.a (ah p),.a (ah q)] [.c (.i .i64 (cP p q))]:=rq (wq (j.a1.mono (by decide)) (j.b1.mono (by decide)) (j.a2.mono (by decide)) (j.b2.mono (by decide)) (j.c.mono (by decide)) (A.a1.mono (by decide)) (A.b1.mono (by decide)) (A.a2.mono (by decide)) (A.b2.mono (by decide)) (A.c.mono (by decide)) ((j.a1.sub A.a1).mono (by decide)) ((j.a2.sub A.a2).mono (by decide))) (JH (cD j) (cD A))
theorem wC (j:GP p) (A:GP q):cq 141 [.a (ah p),.a (ah q)] [.c (.b (cP p q==0))]:=zn (IP (j.a1.mono (by decide)) (j.b1.mono (by decide)) (j.a2.mono (by decide)) (j.b2.mono (by decide)) (j.c.mono (by decide)) (A.a1.mono (by decide)) (A.b1.mono (by decide)) (A.a2.mono (by decide)) (A.b2.mono (by decide)) (A.c.mono (by decide)) ((j.a1.sub A.a1).mono (by decide)) ((j.a2.sub A.a2).mono (by decide))) (by rw[JH (cD j) (cD A)];rfl)
theorem xCX (j:GP p) (A:GP q):cq 12 [.a ((cR p.a1++cR p.b1++cR (zc p.b1 p.c))),.a ((cR q.a1++cR q.b1++cR (zc q.b1 q.c)))] [.c (.i .i64 (cx p q))]:=sj (j.a1.mono (by decide)) (j.b1.mono (by decide)) (gN (j.c.mono (by decide)) (by decide)) (A.a1.mono (by decide)) (A.b1.mono (by decide)) (gN (A.c.mono (by decide)) (by decide)) ((j.a1.sub A.a1).mono (by decide)) (lP (cD j)) (lP (cD A))
theorem xEX (j:GP p) (A:GP q):cq 41 [.a ((cR p.a1++cR p.b1++cR (zc p.b1 p.c))),.a ((cR q.a1++cR q.b1++cR (zc q.b1 q.c)))] [.c (.b (cx p q==0))]:=LP (j.a1.mono (by decide)) (j.b1.mono (by decide)) (gN (j.c.mono (by decide)) (by decide)) (A.a1.mono (by decide)) (A.b1.mono (by decide)) (gN (A.c.mono (by decide)) (by decide)) ((j.a1.sub A.a1).mono (by decide)) (lP (cD j)) (lP (cD A))
theorem xRX (j:GP p) (A:Rz 400 v):cq 39 [.a ((cR p.a1++cR p.b1++cR (zc p.b1 p.c))),dR v] [.c (.i .i64 (zX p v))]:=rq (A5 (j.a1.mono (by decide)) (j.b1.mono (by decide)) (gN (j.c.mono (by decide)) (by decide)) (A.mono (by decide)) ((j.a1.sub A).mono (by decide)) (lP (cD j))) (MP (lP (cD j)))
theorem xCY (j:GP p) (A:GP q):cq 12 [.a ((cR p.a2++cR p.b2++cR (zc p.b2 p.c))),.a ((cR q.a2++cR q.b2++cR (zc q.b2 q.c)))] [.c (.i .i64 (cy p q))]:=sj (j.a2.mono (by decide)) (j.b2.mono (by decide)) (gN (j.c.mono (by decide)) (by decide)) (A.a2.mono (by decide)) (A.b2.mono (by decide)) (gN (A.c.mono (by decide)) (by decide)) ((j.a2.sub A.a2).mono (by decide)) (lP (cD j)) (lP (cD A))
theorem xRY (j:GP p) (A:Rz 400 v):cq 39 [.a ((cR p.a2++cR p.b2++cR (zc p.b2 p.c))),dR v] [.c (.i .i64 (mh p v))]:=rq (A5 (j.a2.mono (by decide)) (j.b2.mono (by decide)) (gN (j.c.mono (by decide)) (by decide)) (A.mono (by decide)) ((j.a2.sub A).mono (by decide)) (lP (cD j))) (MP (lP (cD j)))
theorem mi (j:Rz 6000000 x) (A:Rz 6000000 y):cq 103 [dR x,dR y] [dR (x+y)]:=by refine bE Tryz.func103 rfl<|ac rfl (kQ (az j) (az A)) ?_;exact ae (aN br rfl aa)
theorem pI (j:Rz 6000000 x) (A:Rz 6000000 y):cq 102 [dR x,dR y] [dR (x-y)]:=by refine bE Tryz.func102 rfl<|ac rfl (jS (az j) (az A)) ?_;exact ae (aN br rfl aa)
theorem du (j:Rz 6000000 x) (A:Rz 6000000 y):cq 104 [dR x,dR y] [dR (x*y)]:=by refine bE Tryz.func104 rfl<|ac rfl (dd (az j) (az A)) ?_;exact ae (aN br rfl aa)
theorem Cd (j:Rz 6000000 x) (A:Rz 6000000 y):cq 286 [dR x,dR y] [dR (x+y)]:=by refine bE Tryz.func286 rfl<|ac rfl (kQ (az j) (az A)) ?_;exact ae (aN br rfl aa)
theorem lj (j:Rz 6000000 x) (A:Rz 6000000 y):cq 218 [dR x,dR y] [dR (x-y)]:=by refine bE Tryz.func218 rfl<|ac rfl (jS (az j) (az A)) ?_;exact ae (aN br rfl aa)
theorem iD (j:Rz 6000000 x) (A:Rz 6000000 y):cq 219 [dR x,dR y] [dR (x*y)]:=by refine bE Tryz.func219 rfl<|ac rfl (dd (az j) (az A)) ?_;exact ae (aN br rfl aa)
theorem Rq {m:Rat}(J:Rz 2000000 a) (A:Rz 2000000 b) (hm:Rz 2000000 m):cq 101 [dR a,dR b,dR m] [.c (.i .i64 (b8 a b m))]:=by
 have ka:Rz 6000000 a:=J.m_;have W:Rz 6000000 b:=A.m_;have V:=go (dH b 0) (dH m 0);have R:=go (dH a 0) (dH (a*a) (b*b*m));refine bE Tryz.func101 rfl<|cm 9 [] ?_;refine aw rfl bU ?_;refine aw rfl bU ?_;refine aw rfl bU ?_;refine aq (ca ((aG b 0)*(aG m 0)) (dz (by omega) (by omega)) rfl) ?_;refine iN (aY rfl) (fun c1 I=>?_);cases c1
 .refine dg rfl (fun D=>?_) (fun D=>?_)
  .apply ae;unfold b8;rw[ym D];exact aj aa
  .refine dg rfl (fun j=>?_) (fun j=>?_)
   .apply ae;unfold b8;rw[yJ j];exact aj aa
   .apply cm 12 [];refine aw rfl (du (az J) (az J)) ?_;refine aw rfl (du (az A) (az A)) ?_;refine aw rfl (du (az (al A A)) (az hm)) ?_;refine aw rfl (jG (az (al J J)) (az (al (al A A) hm))) ?_;refine aq (ca ((aG a 0)*(aG (a*a) ((b*b)*m))) (dz (by omega) (by omega)) rfl)<|ae ?_;unfold b8;rw[xU j I D];exact aj aa
 .refine n7 rfl<|ae ?_;unfold b8;rw[yb I];exact aj aa
theorem F5 {x y:Int}(A:Bd x) (j:Bd y):cq 184 [.a (([.i .i64 x]++[.i .i64 y]))] [.a (([.i .i64 (-y)]++[.i .i64 (-x)]))]:=by unfold Bd at A j;refine bE Tryz.func184 rfl<|ar (fG (r:= -y) rfl (by rw[Int.zero_sub];exact lq (by omega) (by omega)) rfl) ?_;refine ar (fG (r:= -x) rfl (by rw[Int.zero_sub];exact lq (by omega) (by omega)) rfl) ?_;refine ar (am wi vh rfl rfl rfl) ?_;exact ae (aN mO rfl aa)
theorem TM (R:Rz 4000000 a) (J:Rz 4000000 b) (V:Rz 4000000 c) (I:Rz 4000000 v):cq 187 [dR a,dR b,dR c,dR v] [.a (([.i .i64 (Fr a b c v)]++[.i .i64 (Ft a b c v)])),.c (.b (KB a b c v))]:=by
 refine bE Tryz.func187 rfl<|ar (am wO wm rfl rfl rfl) ?_;refine ac rfl (pj ‹_› ‹_› ‹_›)<|ac rfl (gJ (az I)) ?_;refine iN (aY rfl) (fun c1 A=>?_);cases c1
 .refine dg rfl (fun D=>?_) (fun D=>?_)
  .have j:Bf a b c v=false:=by unfold Bf;rw[dK A,gK D];rfl
   refine ar (am wi vh rfl rfl rfl) ?_;apply ae;rw[(E9 j).1,(E9 j).2.1,(E9 j).2.2];exact aN mO rfl (aj aa)
  .have j:Bf a b c v=true:=by unfold Bf;rw[dK A,dK D];rfl
   apply cm 6 [];refine aw rfl (F5 (qN _) (qz _)) ?_;refine aw rfl (qU (aaz _ _ _) (aat _ _ _) (Bd.neg (qz _)) (Bd.neg (qN _)))<|ae ?_;rw[(F9 j).1,(F9 j).2.1,(F9 j).2.2];exact aN mO rfl (aj aa)
 .have j:Bf a b c v=false:=by unfold Bf;rw[gK A];rfl
  refine n7 rfl<|ar (am wi vh rfl rfl rfl) ?_;apply ae;rw[(E9 j).1,(E9 j).2.1,(E9 j).2.2];exact aN mO rfl (aj aa)
theorem Xl (hk:GK k) (hp:GB p):cq 107 [.a (bG k),.a (ah p)] [.c (.i .i64 (ZO k p)),.c (.b (Zw k p))]:=by
 apply bE Tryz.func107 rfl;refine ac rfl (TM hp.a1.m_ hp.b1.m_ hp.c.m_ hk.x.m_) ?_;refine ac rfl (TM hp.a2.m_ hp.b2.m_ hp.c.m_ hk.y.m_) ?_;refine ac rfl (gJ hk.q.m_) ?_;refine iN (aY rfl) (fun c1 D=>?_);cases c1
 .refine iN (aY rfl) (fun c2 W=>?_);cases c2
  .refine dg rfl (fun V=>?_) (fun V=>?_)
   .have m0:Vp k p=false:=by unfold Vp;rw[show KB p.a1 p.b1 p.c k.x=true from dK D,show KB p.a2 p.b2 p.c k.y=true from dK W,show iE k.q=false from gK V];rfl
    have m1:MQ k p=false:=by unfold MQ;rw[m0];rfl
    have A:Kz k p=false:=by unfold Kz;rw[m1];rfl
    have j:D2 k p=false:=by unfold D2;rw[A];rfl
    apply ae;rw[(qu j).1,(qu j).2];exact aj (aj aa)
   .have n1:Vp k p=true:=by unfold Vp;rw[show KB p.a1 p.b1 p.c k.x=true from dK D,show KB p.a2 p.b2 p.c k.y=true from dK W,show iE k.q=true from dK V];rfl
    refine ac rfl (s8 (Hh _ _ _ _) (HL _ _ _ _) (Hh _ _ _ _) (HL _ _ _ _))<|ac rfl (s8 (Hh _ _ _ _) (HL _ _ _ _) (Hh _ _ _ _) (HL _ _ _ _)) ?_;refine iN (aY rfl) (fun c4 R=>?_);cases c4
    .refine dg rfl (fun J=>?_) (fun J=>?_)
     .have m1:MQ k p=false:=by unfold MQ;rw[n1,show Xx k p=true from dK R,show ab0 k p=false from gK J];rfl
      have A:Kz k p=false:=by unfold Kz;rw[m1];rfl
      have j:D2 k p=false:=by unfold D2;rw[A];rfl
      apply ae;rw[(qu j).1,(qu j).2];exact aj (aj aa)
     .have n2:MQ k p=true:=by unfold MQ;rw[n1,show Xx k p=true from dK R,show ab0 k p=true from dK J];rfl
      refine ac rfl (qU Ox.1 Ox.2 Mp.1 Mp.2) ?_;refine dg rfl (fun I=>?_) (fun I=>?_)
      .have A:Kz k p=false:=by unfold Kz;rw[n2,show smK k p=false from gK I];rfl
       have j:D2 k p=false:=by unfold D2;rw[A];rfl
       apply ae;rw[(qu j).1,(qu j).2];exact aj (aj aa)
      .have n3:Kz k p=true:=by unfold Kz;rw[n2,show smK k p=true from dK I];rfl
       refine cm 10 [15,999999] ?_;refine aw rfl (F5 (qN _) (qz _)) ?_;refine aw rfl (qU Qy.1 Qy.2 (Bd.neg (qz _)) (Bd.neg (qN _))) ?_;refine DQ.mk<|kZ (ff mO rfl) rfl rfl rfl rfl<|dY ?_;refine dg rfl (fun a3=>?_) (fun a3=>?_)
       .have j:D2 k p=false:=by unfold D2;rw[n3,show rsK k p=false from gK a3];rfl
        apply ae;rw[(qu j).1,(qu j).2];exact aj (aj aa)
       .have n4:D2 k p=true:=by unfold D2;rw[n3,show rsK k p=true from dK a3];rfl
        refine ac rfl (Dz)<|ae ?_;rw[(LR n4).1,(LR n4).2];exact aj (aj aa)
    .apply n7 rfl;have m1:MQ k p=false:=by unfold MQ;rw[n1,show Xx k p=false from gK R];rfl
     have A:Kz k p=false:=by unfold Kz;rw[m1];rfl
     have j:D2 k p=false:=by unfold D2;rw[A];rfl
     apply ae;rw[(qu j).1,(qu j).2];exact aj (aj aa)
  .apply n7 rfl;have m0:Vp k p=false:=by unfold Vp;rw[show KB p.a1 p.b1 p.c k.x=true from dK D,show KB p.a2 p.b2 p.c k.y=false from gK W];rfl
   have m1:MQ k p=false:=by unfold MQ;rw[m0];rfl
   have A:Kz k p=false:=by unfold Kz;rw[m1];rfl
   have j:D2 k p=false:=by unfold D2;rw[A];rfl
   apply ae;rw[(qu j).1,(qu j).2];exact aj (aj aa)
 .refine ar (aY rfl)<|n7 rfl ?_;have m0:Vp k p=false:=by unfold Vp;rw[show KB p.a1 p.b1 p.c k.x=false from gK D];rfl
  have m1:MQ k p=false:=by unfold MQ;rw[m0];rfl
  have A:Kz k p=false:=by unfold Kz;rw[m1];rfl
  have j:D2 k p=false:=by unfold D2;rw[A];rfl
  apply ae;rw[(qu j).1,(qu j).2];exact aj (aj aa)
theorem Ul (k:Ci) (p:Pt):(p.a1-k.x)*(p.a1-k.x)+(p.a2-k.y)*(p.a2-k.y)+p.c*(p.b1*p.b1+p.b2*p.b2)-k.q=PU k p:=by unfold PU MB;grind
theorem abC (A:GK k) (j:GB p):cq 40 [.a (bG k),.a (ah p)] [.c (.i .i64 (kq k p))]:=by
 have b1:=N8 k p;apply bE Tryz.func40 rfl;refine ac rfl (Xl A j) ?_;refine dg rfl (fun D=>?_) (fun D=>?_)
 .have I:=afM j.v D;refine ar (fG (r:= -ZO k p) rfl (by rw[Int.zero_sub];exact lq (by omega) (by omega)) rfl) ?_;apply ae;rw[<-I];exact aj aa
 .apply cm 12 [];refine aw rfl (pI (az j.a1) (az A.x)) ?_;refine aw rfl (pI (az j.a2) (az A.y))<|cm 8 [9,10,999999] ?_;refine DQ.mk<|kZ (ff br rfl) rfl rfl rfl rfl<|dY ?_;refine DQ.mk<|kZ (ff br rfl) rfl rfl rfl rfl<|dY ?_;apply cm 19 [];refine aw rfl (du (az (ak j.a1 A.x)) (az (ak j.a1 A.x))) ?_;refine aw rfl (du (az (ak j.a2 A.y)) (az (ak j.a2 A.y))) ?_;refine aw rfl (mi (az (al (ak j.a1 A.x) (ak j.a1 A.x))) (az (al (ak j.a2 A.y) (ak j.a2 A.y)))) ?_;refine aw rfl (du (az j.b1) (az j.b1)) ?_;refine aw rfl (du (az j.b2) (az j.b2)) ?_;refine aw rfl (mi (az (al j.b1 j.b1)) (az (al j.b2 j.b2))) ?_;refine aw rfl (du (az j.c) (az (dJ (al j.b1 j.b1) (al j.b2 j.b2)))) ?_;refine aw rfl (mi (az (dJ (al (ak j.a1 A.x) (ak j.a1 A.x)) (al (ak j.a2 A.y) (ak j.a2 A.y)))) (az (al j.c (dJ (al j.b1 j.b1) (al j.b2 j.b2)))))<|cm 8 [] ?_;refine aw rfl (du (az (ak j.a1 A.x)) (az j.b1)) ?_;refine aw rfl (du (az (ak j.a2 A.y)) (az j.b2)) ?_;refine aw rfl (mi (az (al (ak j.a1 A.x) j.b1)) (az (al (ak j.a2 A.y) j.b2)))<|cm 12 [] ?_;refine aw rfl (pI (az (dJ (dJ (al (ak j.a1 A.x) (ak j.a1 A.x)) (al (ak j.a2 A.y) (ak j.a2 A.y))) (al j.c (dJ (al j.b1 j.b1) (al j.b2 j.b2))))) (az A.q)) ?_;refine aw rfl (mi (az (dJ (al (ak j.a1 A.x) j.b1) (al (ak j.a2 A.y) j.b2))) (az (dJ (al (ak j.a1 A.x) j.b1) (al (ak j.a2 A.y) j.b2)))) ?_;refine aw rfl (rq (Rq (by rw[Ul];exact (T5 A j).m_) (Q2 A j).m_ j.c.m_) (by rw[Ul];rfl))<|aq (fG rfl (AU (il (PU k p) (HC k p) p.c)) rfl) ?_;apply ae;rw[<-(aeT (k:=k) j.v)];exact aj aa
theorem Sp (A:GK k) (j:GP p):cq 40 [.a (bG k),.a (ah p)] [.c (.i .i64 (kq k p))]:=abC A j.gb
theorem P7 {n:Rat}(I:Rz 4000000 n):cq 183 [dR n,.a (([.i .i64 (dU a b c)]++[.i .i64 (dV a b c)])),.c (.b (eu a b c))] [.a (([.i .i64 (Ky n a b c)]++[.i .i64 (KA n a b c)])),.c (.b (Kv n a b c))]:=by
 refine bE Tryz.func183 rfl<|ac rfl (gJ (az I)) ?_;refine iN (aY rfl) (fun c1 A=>?_);cases c1
 .refine dg rfl (fun D=>?_) (fun D=>?_)
  .have j:Be n a b c=false:=by unfold Be;rw[dK A,gK D];rfl
   refine ar (am wi vh rfl rfl rfl) ?_;apply ae;rw[(Em j).1,(Em j).2.1,(Em j).2.2];exact aN mO rfl (aj aa)
  .have j:Be n a b c=true:=by unfold Be;rw[dK A,dK D];rfl
   refine ac rfl (s8 (qN _) (qz _) (aaz _ _ _) (aat _ _ _)) ?_;apply ae;rw[(GI j).1,(GI j).2.1,(GI j).2.2];exact aN mO rfl (aj aa)
 .have j:Be n a b c=false:=by unfold Be;rw[gK A];rfl
  refine n7 rfl<|ar (am wi vh rfl rfl rfl) ?_;apply ae;rw[(Em j).1,(Em j).2.1,(Em j).2.2];exact aN mO rfl (aj aa)
theorem agi (hl:GL l) (V:GP p):cq 100 [.a (dh l),.a (ah p)] [.c (.i .i64 (lqS l p)),.c (.b (lqK l p))]:=by
 refine dP Tryz.func100 88 [.tmp 4,.tmp 5] rfl<|ab<|ag<|ab<|ag ?_;refine ar (am wO wm rfl rfl rfl) ?_;refine ac rfl (pj V.a1.m_ V.b1.m_ V.c.m_)<|ab<|ag ?_;refine ac rfl (P7 hl.a.m_) ?_;refine ab<|ag ?_;refine ar (am wO wm rfl rfl rfl) ?_;refine ac rfl (pj V.a2.m_ V.b2.m_ V.c.m_)<|ab<|ag ?_;refine ac rfl (P7 hl.b.m_) ?_;refine ab<|ag ?_;refine ac rfl (gJ hl.c.m_) ?_;refine ab<|ab<|ag ?_;refine iN (aY rfl) (fun c1 A=>?_);cases c1
 .refine iN (aY rfl) (fun c2 I=>?_);cases c2
  .refine aJ rfl (fun D=>?_) (fun D=>?_)
   .refine ab<|ag<|aU ?_;have W:Vt l p=false:=by unfold Vt;rw[show Kv l.a p.a1 p.b1 p.c=true from dK A,show Kv l.b p.a2 p.b2 p.c=true from dK I,show iE l.c=false from gK D];rfl
    have m1:P5 l p=false:=by unfold P5;rw[W];rfl
    have j:JP l p=false:=by unfold JP;rw[m1];rfl
    rw[(wu j).1,(wu j).2];exact ae (aj (aj aa))
   .have n1:Vt l p=true:=by unfold Vt;rw[show Kv l.a p.a1 p.b1 p.c=true from dK A,show Kv l.b p.a2 p.b2 p.c=true from dK I,show iE l.c=true from dK D];rfl
    refine aA<|ab<|ag ?_;refine ac rfl (qU (Us _ _ _ _) (RY _ _ _ _) (Us _ _ _ _) (RY _ _ _ _))<|ab<|ab<|ag ?_;refine aJ rfl (fun J=>?_) (fun J=>?_)
    .refine ab<|ag<|aU ?_;have m1:P5 l p=false:=by unfold P5;rw[n1,show lsK l p=false from gK J];rfl
     have j:JP l p=false:=by unfold JP;rw[m1];rfl
     rw[(wu j).1,(wu j).2];exact ae (aj (aj aa))
    .have n2:P5 l p=true:=by unfold P5;rw[n1,show lsK l p=true from dK J];rfl
     refine aA<|ab<|ab<|qo 8 [12,999999] d9 (by kernel_rfl) rfl rfl<|AM (by kernel_rfl) (lW mO rfl)<|eJ 1<|bp (iW rfl (F5 (qN _) (qz _)))<|bp (iW rfl (qU RE.1 RE.2 (Bd.neg (qz _)) (Bd.neg (qN _))))<|eJ 3<|ig (ff mO rfl) rfl rfl rfl rfl<|mD<|sA<|gm<|ab ?_;refine ag ?_;refine aJ rfl (fun R=>?_) (fun R=>?_)
     .refine ab<|ag<|aU ?_;have j:JP l p=false:=by unfold JP;rw[n2,show lrK l p=false from gK R];rfl
      rw[(wu j).1,(wu j).2];exact ae (aj (aj aa))
     .have n3:JP l p=true:=by unfold JP;rw[n2,show lrK l p=true from dK R];rfl
      refine aA<|ab<|ag ?_;refine ac rfl (Dz)<|aU ?_;rw[(L7 n3).1,(L7 n3).2];exact ae (aj (aj aa))
  .refine fp rfl<|ab<|ag<|aU ?_;have W:Vt l p=false:=by unfold Vt;rw[show Kv l.a p.a1 p.b1 p.c=true from dK A,show Kv l.b p.a2 p.b2 p.c=false from gK I];rfl
   have m1:P5 l p=false:=by unfold P5;rw[W];rfl
   have j:JP l p=false:=by unfold JP;rw[m1];rfl
   rw[(wu j).1,(wu j).2];exact ae (aj (aj aa))
 .refine ar (aY rfl)<|fp rfl<|ab<|ag<|aU ?_;have W:Vt l p=false:=by unfold Vt;rw[show Kv l.a p.a1 p.b1 p.c=false from gK A];rfl
  have m1:P5 l p=false:=by unfold P5;rw[W];rfl
  have j:JP l p=false:=by unfold JP;rw[m1];rfl
  rw[(wu j).1,(wu j).2];exact ae (aj (aj aa))
theorem SZ (hl:GL l) (j:GP p):cq 37 [.a (dh l),.a (ah p)] [.c (.i .i64 (gf l p))]:=by
 apply bE Tryz.func37 rfl;refine ac rfl (agi hl j) ?_;refine dg rfl (fun A=>?_) (fun A=>?_)
 .have D:=WW j.v A;apply ae;rw[<-D];exact aj aa
 .apply cm 29 [];refine aw rfl (du (az hl.a) (az j.a1)) ?_;refine aw rfl (du (az hl.b) (az j.a2)) ?_;refine aw rfl (mi (az (al hl.a j.a1)) (az (al hl.b j.a2))) ?_;refine aw rfl (pI (az (dJ (al hl.a j.a1) (al hl.b j.a2))) (az hl.c)) ?_;refine aw rfl (du (az hl.a) (az j.b1)) ?_;refine aw rfl (du (az hl.b) (az j.b2)) ?_;refine aw rfl (mi (az (al hl.a j.b1)) (az (al hl.b j.b2))) ?_;refine aw rfl ((show cq 101 _ [.c (.i .i64 (b8 (vA l p) (vB l p) p.c))] from Rq (NZ hl j).m_ (Nr hl j).m_ j.c.m_))<|ae ?_;rw[<-(abp (l:=l) j.v)];exact aj aa
theorem E4 (J:Rz 2000000 a) (D:Rz 2000000 b) (I:Rz 2000000 c) (h0: ¬c<0) (hs:jy c=true):cq 226 [dR a,dR b,dR c] [.a ((cR (a+b*rt c)++cR 0++cR 0)),.c (.i .i64 0)]:=by
 have V:Rz 2000000 (rt c):=I.rt;have R:Rz 6000000 (b*rt c):=(D.mul I.rt).m_;refine bE Tryz.func226 rfl<|ac rfl bU ?_;refine dg rfl (fun j=>?_) (fun j=>?_);·exact absurd (Il j) h0
 .refine ac rfl (Ar (az I)) ?_;refine DW.mk<|aJ rfl (fun A=>?_) (fun A=>?_)
  .refine pG (σ':=⟨30,[(3,.p 3 0),(4,.p 4 0),(6,.p 6 0),(8,.p 8 0)],[(3,40,cR a),(4,40,cR b),(6,59,zR),(8,40,cR (rt c))]⟩) (au (bt rfl) ⟨rfl,rfl,rfl,by rw[<-Cf hs];rfl,trivial⟩ rfl)<|th ?_;apply cm 6 [];refine aw rfl (dd (az D) Qg) ?_;refine aw rfl (kQ (az J) (az (al D ‹_›)))<|aw rfl jk ?_;exact ae (aN gT rfl (aj aa))
  .exact absurd hs (by rw[A];decide)
theorem Fz (_J:Rz 2000000 a) (_I:Rz 2000000 b) (D:Rz 2000000 c) (h0: ¬c<0) (hs:jy c=false):cq 226 [dR a,dR b,dR c] [.a ((cR a++cR b++cR (zc b c))),.c (.i .i64 0)]:=by
 refine bE Tryz.func226 rfl<|ac rfl bU ?_;refine dg rfl (fun A=>?_) (fun A=>?_);·exact absurd (Il A) h0
 .refine ac rfl (Ar (az D)) ?_;refine dg rfl (fun j=>?_) (fun j=>?_);·exact absurd j (by rw[hs];decide)
  .refine ac rfl oS ?_;exact ae (aN gT rfl (aj aa))
theorem OB {u q:Rat}(A:Rz 100 x) (D:Rz 100 u) (I:Rz 100 y) (J:Rz 100 v) (j:Rz 200 q) (h0:0<q) (_R: ¬(u=0/\v=0)) (hs:jy q=true):cq 145 [dR x,dR u,dR y,dR v,dR q] [.a (ah (iP x u y v q))]:=by
 have nq: ¬q<0:=by grind
 refine bE Tryz.func145 rfl<|ac rfl (E4 A.m_ D.m_ j.m_ nq hs)<|ac rfl (E4 I.m_ J.m_ j.m_ nq hs)<|ac rfl (L1 (C4 (iH (by decide)) (iH (by decide)) (fun e=>e.1 rfl)) rfl rfl rfl rfl (Jk rfl rfl))<|ae ?_;rw[show iP x u y v q=⟨x+u*rt q,0,y+v*rt q,0,0⟩ from by unfold iP;rw[hs];rfl];exact aN bb rfl aa
theorem PJ {u q:Rat}(D:Rz 100 x) (I:Rz 100 u) (J:Rz 100 y) (R:Rz 100 v) (j:Rz 200 q) (h0:0<q) (V: ¬(u=0/\v=0)) (hs:jy q=false):cq 145 [dR x,dR u,dR y,dR v,dR q] [.a (ah (iP x u y v q))]:=by
 have nq: ¬q<0:=by grind
 have A: ∀w:Rat,Rz 6000000 (zc w q):=fun w=>gN j.m_ (by decide);refine bE Tryz.func145 rfl<|ac rfl (Fz D.m_ I.m_ j.m_ nq hs)<|ac rfl (Fz J.m_ R.m_ j.m_ nq hs)<|ac rfl (L1 (C4 (A _) (A _) (fun e=>e.2.2 (by rw[j6 e.1,j6 e.2.1]))) rfl rfl rfl rfl (abx V))<|ae ?_;rw[show iP x u y v q=⟨x,u,y,v,q⟩ from by unfold iP;rw[hs];rfl];exact aN bb rfl aa
theorem rh {u q:Rat}(j:Rz 100 x) (A:Rz 100 u) (D:Rz 100 y) (I:Rz 100 v) (R:Rz 200 q) (h0:0<q) (J: ¬(u=0/\v=0)):cq 145 [dR x,dR u,dR y,dR v,dR q] [.a (ah (iP x u y v q))]:=by
 cases hs:jy q with
 |true=>exact OB j A D I R h0 J hs
 |false=>exact PJ j A D I R h0 J hs
theorem agy (j:GK k) (h0:0<k.q):cq 62 [.a (bG k)] [.a (ah (se k)),.a (ah (sv k))]:=by have o1:Rz 6000000 (1:Rat):=ny.m_;refine bE Tryz.func62 rfl<|ac rfl (dL (oY (by decide) (by decide)) (show((1:Int):Rat)=1 from rfl))<|ac rfl (dL (oY (by decide) (by decide)) (show((0:Int):Rat)=0 from rfl))<|cm 19 [] ?_;refine aw rfl (de o1) ?_;refine aw rfl (rh j.x.m_ ny.neg.m_ j.y.m_ (iH (by decide)) j.q.m_ h0 (fun e=>absurd e.1 (by decide))) ?_;refine aw rfl (rh j.x.m_ ny.m_ j.y.m_ (iH (by decide)) j.q.m_ h0 (fun e=>absurd e.1 (by decide))) ?_;exact ae (aN bb rfl (aN bb rfl aa))
theorem aaj (hl:GL l):cq 274 [.a (dh l)] [dR (iI l)]:=by refine bE Tryz.func274 rfl<|cm 11 [] ?_;refine aw rfl (eE (az hl.a) (az hl.a)) ?_;refine aw rfl (eE (az hl.b) (az hl.b)) ?_;refine aw rfl (rR (az (al hl.a hl.a)) (az (al hl.b hl.b))) ?_;exact ae (aN br rfl aa)
theorem aao (hl:GL l) (j:GK k):cq 276 [.a (dh l),dR k.x,dR k.y] [dR (pt l k.x k.y)]:=by refine bE Tryz.func276 rfl<|cm 12 [] ?_;refine aw rfl (eE (az hl.a) (az j.x)) ?_;refine aw rfl (eE (az hl.b) (az j.y)) ?_;refine aw rfl (rR (az (al hl.a j.x)) (az (al hl.b j.y))) ?_;refine aw rfl (jz (az (dJ (al hl.a j.x) (al hl.b j.y))) (az hl.c)) ?_;exact ae (aN br rfl aa)
theorem abX (hl:GL l) (j:GK k):cq 273 [.a (dh l),.a (bG k)] [dR (p5 l k)]:=by have v1:Rz 6000000 (pt l k.x k.y):=(oP hl j).m_;have J:Rz 6000000 (iI l):=(j9 hl).m_;have I:Rz 6000000 k.q:=j.q.m_;have D:Rz 6000000 (iI l*k.q):=((j9 hl).mul j.q).m_;have A:Rz 6000000 (pt l k.x k.y*pt l k.x k.y):=((oP hl j).mul (oP hl j)).m_;refine bE Tryz.func273 rfl<|ac rfl (aao hl j)<|cm 9 [] ?_;refine aw rfl (aaj hl) ?_;refine aw rfl (eE (by first|assumption|exact fb ‹_› (by decide)) (by first|assumption|exact fb j.q (by decide))) ?_;refine aw rfl (eE (by first|assumption|exact fb ‹_› (by decide)) (by first|assumption|exact fb ‹_› (by decide))) ?_;refine aw rfl (jz (by first|assumption|exact fb (al ‹_› j.q) (by decide)) (by first|assumption|exact fb (al ‹_› ‹_›) (by decide))) ?_;exact ae (aN br rfl aa)
theorem aep (hl:GL l) (hm:GL m):cq 279 [.a (dh l),.a (dh m)] [dR (kK l m)]:=by refine bE Tryz.func279 rfl<|cm 11 [] ?_;refine aw rfl (eE (az hl.a) (az hm.b)) ?_;refine aw rfl (eE (az hm.a) (az hl.b)) ?_;refine aw rfl (jz (az (al hl.a hm.b)) (az (al hm.a hl.b))) ?_;exact ae (aN br rfl aa)
theorem aaA (D:GK k) (A:GK d):cq 271 [.a (bG k),.a (bG d)] [.c (.b (pF k d))]:=by
 apply bE Tryz.func271 rfl;refine ac rfl (iG (az D.x) (az A.x)) ?_;refine iN (aY rfl) (fun c1 j=>?_);cases c1
 .apply ae;rw[show pF k d=false from by unfold pF ue;rw[j];rfl];exact aj aa
 .refine ac rfl (iG (az D.y) (az A.y))<|ae ?_;rw[show pF k d=(aG k.y d.y==0) from by unfold pF ue;rw[j];rfl];exact aj aa
theorem Tn (R:Rz 200 a1) (A:Rz 200 b1) (J:Rz 200 a2) (j:Rz 200 b2) (I:Rz 200 c) (hs:jy c=true):cq 264 [dR a1,dR b1,dR a2,dR b2,dR c] [.a (ah (iP a1 b1 a2 b2 c))]:=by
 have kt:Rz 6000000 (rt c):=I.rt.m_;have V:Rz 6000000 (b1*rt c):=(A.mul I.rt).m_;have W:Rz 6000000 (b2*rt c):=(j.mul I.rt).m_;apply bE Tryz.func264 rfl;refine ac rfl (sB (by first|assumption|exact fb I (by decide))) ?_;refine DW.mk<|aJ rfl (fun D=>?_) (fun D=>?_)
 .refine pG (σ':=⟨37,[(5,.p 5 0),(6,.p 6 0),(7,.p 7 0),(8,.p 8 0),(9,.p 9 0),(10,.p 10 0),(11,.p 11 0)],[(5,40,cR a1),(6,40,cR b1),(7,40,cR a2),(8,40,cR b2),(9,40,cR c),(10,42,zP),(11,40,cR (rt c))]⟩) (au (bt rfl) ⟨rfl,rfl,rfl,rfl,rfl,rfl,by rw[<-Cf hs];rfl,trivial⟩ rfl)<|th ?_;apply cm 12 [];refine aw rfl (eE (by first|assumption|exact fb A (by decide)) (by first|assumption|exact fb ‹_› (by decide))) ?_;refine aw rfl (rR (by first|assumption|exact fb R (by decide)) (by first|assumption|exact fb (al A ‹_›) (by decide))) ?_;refine aw rfl (eE (by first|assumption|exact fb j (by decide)) (by first|assumption|exact fb ‹_› (by decide))) ?_;refine aw rfl (rR (by first|assumption|exact fb J (by decide)) (by first|assumption|exact fb (al j ‹_›) (by decide))) ?_;refine aq (am qa pm rfl rfl rfl) ?_;refine aw rfl (tj)<|ae ?_;rw[show iP a1 b1 a2 b2 c=⟨a1+b1*rt c,0,a2+b2*rt c,0,0⟩ from by unfold iP;rw[hs];rfl];exact aN bb rfl aa
 .exact absurd D (by rw[hs];decide)
theorem Q6 (_R:Rz 200 a1) (_A:Rz 200 b1) (_I:Rz 200 a2) (_D:Rz 200 b2) (J:Rz 200 c) (hs:jy c=false):cq 264 [dR a1,dR b1,dR a2,dR b2,dR c] [.a (ah (iP a1 b1 a2 b2 c))]:=by
 refine dP Tryz.func264 37 [.cell 10 42] rfl<|ab<|ag<|ab<|ab<|ag ?_;refine ac rfl (sB (az J))<|ab<|ag ?_;refine aJ rfl (fun j=>?_) (fun j=>?_);·exact absurd j (by rw[hs];decide)
 .refine aA<|ab<|bN<|cZ 5<|bj (am D7 Bb rfl rfl rfl) ?_;refine gm<|aU ?_;rw[show iP a1 b1 a2 b2 c=⟨a1,b1,a2,b2,c⟩ from by unfold iP;rw[hs];rfl];exact ae (aN bb rfl aa)
theorem NL (I:Rz 200 a1) (j:Rz 200 b1) (D:Rz 200 a2) (A:Rz 200 b2) (J:Rz 200 c):cq 264 [dR a1,dR b1,dR a2,dR b2,dR c] [.a (ah (iP a1 b1 a2 b2 c))]:=by
 cases hs:jy c with
 |true=>exact Tn I j D A J hs
 |false=>exact Q6 I j D A J hs
theorem abR (hl:GL l) (j:GK k):cq 206 [.a (dh l),.a (bG k)] [.c (.s ((jw l k).length) (aD ah (jw l k)))]:=by
 have h0:=hl.n;have z1:Rz 6000000 (pt l k.x k.y):=(oP hl j).m_;have z2:Rz 6000000 (iI l):=(j9 hl).m_;have z3:Rz 6000000 (pt l k.x k.y/iI l):=(Jx hl j).m_;have W:Rz 6000000 (l.b/iI l):=(Ie hl).m_;have z5:Rz 6000000 (-l.a/iI l):=(Im hl).m_;have V:Rz 6000000 l.a:=hl.a.m_;have z7:Rz 6000000 l.b:=hl.b.m_;have z8:Rz 6000000 (-l.a):=V.neg;have z9:Rz 6000000 (pt l k.x k.y/iI l*l.a):=((Jx hl j).mul hl.a).m_;have zA:Rz 6000000 (pt l k.x k.y/iI l*l.b):=((Jx hl j).mul hl.b).m_;have zB:Rz 6000000 k.x:=j.x.m_;have zC:Rz 6000000 k.y:=j.y.m_;refine bE Tryz.func206 rfl<|cm 7 [] ?_;refine aw rfl (abX hl j) ?_;refine aw rfl (aaj hl) ?_;refine ac rfl b9 ?_;refine dg rfl (fun A=>?_) (fun A=>?_)
 .apply ae;rw[Vi A];exact aj aa
 .have R: ¬aG (p5 l k) 0<0:=of_decide_eq_false A;apply cm 9 [];refine aw rfl (aao hl j) ?_;refine aw rfl (vq (by first|assumption|exact fb ‹_› (by decide)) (by first|assumption|exact fb ‹_› (by decide)) ‹_›) ?_;apply cm 16 [];refine aw rfl (eE (by first|assumption|exact fb (kX ‹_› ‹_› ‹_›) (by decide)) (by first|assumption|exact fb ‹_› (by decide))) ?_;refine aw rfl (jz (by first|assumption|exact fb ‹_› (by decide)) (by first|assumption|exact fb (al (kX ‹_› ‹_› ‹_›) ‹_›) (by decide))) ?_;refine aw rfl (eE (by first|assumption|exact fb (kX ‹_› ‹_› ‹_›) (by decide)) (by first|assumption|exact fb ‹_› (by decide))) ?_;refine aw rfl (jz (by first|assumption|exact fb ‹_› (by decide)) (by first|assumption|exact fb (al (kX ‹_› ‹_› ‹_›) ‹_›) (by decide))) ?_;refine ac rfl b9 ?_;refine dg rfl (fun D=>?_) (fun D=>?_)
  .refine ar (am qa pm rfl rfl rfl) ?_;refine ac rfl (tj)<|ar (cb iw rfl rfl rfl (by decide) (by decide) rfl) ?_;apply ae;rw[Rr A D];exact aj aa
  .have J: ¬aG (p5 l k) 0=0:=by simpa using D
   apply cm 11 [];refine aw rfl (vq (by first|assumption|exact fb ‹_› (by decide)) (by first|assumption|exact fb ‹_› (by decide)) ‹_›) ?_;refine aw rfl (yM (by first|assumption|exact fb ‹_› (by decide))) ?_;refine aw rfl (vq (by first|assumption|exact fb (Rz.neg ‹_›) (by decide)) (by first|assumption|exact fb ‹_› (by decide)) ‹_›) ?_;apply cm 16 [];refine aw rfl (yM (by first|assumption|exact fb (kX ‹_› ‹_› ‹_›) (by decide))) ?_;refine aw rfl (yM (by first|assumption|exact fb (kX (Rz.neg ‹_›) ‹_› ‹_›) (by decide))) ?_;refine aw rfl (NL ((jW hl j).m_) ((Ie hl).neg.m_) ((jT hl j).m_) ((Im hl).neg.m_) ((v8 hl j).m_)) ?_;refine aw rfl (NL ((jW hl j).m_) ((Ie hl).m_) ((jT hl j).m_) ((Im hl).m_) ((v8 hl j).m_)) ?_;refine ac rfl (Ag (LV hl j R J) (Lu hl j R J)) ?_;refine dg rfl (fun I=>?_) (fun I=>?_)
   .refine ar (cb iw rfl rfl rfl (by decide) (by decide) rfl) ?_;apply ae;rw[Q5 A D I];exact aj aa
   .refine ar (cb iw rfl rfl rfl (by decide) (by decide) rfl) ?_;apply ae;rw[QP A D I];exact aj aa
theorem agW (hl:GL l) (hm:GL m):cq 207 [.a (dh l),.a (dh m)] [.c (.s ((fP l m).length) (aD ah (fP l m))),.c (.i .i64 (rd l m))]:=by
 have z1:Rz 6000000 (kK l m):=(BD hl hm).m_;have z2:Rz 6000000 (NK l m):=(KT hl hm).m_;have I:Rz 6000000 (Nu l m):=(KH hl hm).m_;apply bE Tryz.func207 rfl;refine ac rfl (aep hl hm)<|cm 24 [] ?_;refine aw rfl (eE (az hl.c) (az hm.b)) ?_;refine aw rfl (eE (az hm.c) (az hl.b)) ?_;refine aw rfl (jz (az (al hl.c hm.b)) (az (al hm.c hl.b))) ?_;refine aw rfl (eE (az hl.a) (az hm.c)) ?_;refine aw rfl (eE (az hm.a) (az hl.c)) ?_;refine aw rfl (jz (az (al hl.a hm.c)) (az (al hm.a hl.c))) ?_;refine ac rfl b9 ?_;refine dg rfl (fun j=>?_) (fun j=>?_)
 .have h0:kK l m≠0:=fun e=>absurd j (by rw[fY.2 e];decide);apply cm 11 [];refine aw rfl (vq z2 z1 h0) ?_;refine aw rfl (vq I z1 h0) ?_;refine aq (am qa pm rfl rfl rfl) ?_;refine aw rfl (tj)<|aq (cb iw rfl rfl rfl (by decide) (by decide) rfl) ?_;apply ae;rw[(J1 j).1,(J1 j).2];exact aj (aj aa)
 .refine ac rfl b9 ?_;refine iN (aY rfl) (fun c2 D=>?_);cases c2
  .refine mL rfl<|ae ?_;rw[(EZ j D).1,(EZ j D).2];exact aj (aj aa)
  .refine ac rfl b9 ?_;refine dg rfl (fun A=>?_) (fun A=>?_)
   .apply ae;rw[(EJ j D A).1,(EJ j D A).2];exact aj (aj aa)
   .apply ae;rw[(Fj j A).1,(Fj j A).2];exact aj (aj aa)
theorem afl (A:GK k) (j:GK d) (D:pF k d=false):cq 272 [.a (bG k),.a (bG d)] [.a (dh (KW k d)),.c (.i .i64 0)]:=by have I:Rz 6000000 (2:Rat):=GE.m_;have f1:Rz 6000000 (DZ k):=(vF A).m_;have J:Rz 6000000 (DZ d):=(vF j).m_;refine bE Tryz.func272 rfl<|ac rfl (zn (aaA A j) D)<|mL rfl<|ac rfl (dL (wg (by decide) (by decide)) (show((2:Int):Rat)=2 from rfl))<|cm 15 [] ?_;refine aw rfl (eE (az A.x) (az A.x)) ?_;refine aw rfl (eE (az A.y) (az A.y)) ?_;refine aw rfl (rR (az (al A.x A.x)) (az (al A.y A.y))) ?_;refine aw rfl (jz (az (dJ (al A.x A.x) (al A.y A.y))) (az A.q))<|cm 15 [] ?_;refine aw rfl (eE (az j.x) (az j.x)) ?_;refine aw rfl (eE (az j.y) (az j.y)) ?_;refine aw rfl (rR (az (al j.x j.x)) (az (al j.y j.y))) ?_;refine aw rfl (jz (az (dJ (al j.x j.x) (al j.y j.y))) (az j.q)) ?_;apply cm 18 [];refine aw rfl (jz (az j.x) (az A.x)) ?_;refine aw rfl (eE Qg (az (ak j.x A.x))) ?_;refine aw rfl (jz (az j.y) (az A.y)) ?_;refine aw rfl (eE Qg (az (ak j.y A.y))) ?_;refine aw rfl (jz (az (ak (dJ (al j.x j.x) (al j.y j.y)) j.q)) (az (ak (dJ (al A.x A.x) (al A.y A.y)) A.q))) ?_;refine aq (am P6 OL rfl rfl rfl) ?_;exact ae (aN rG rfl (aj aa))
theorem afR (D:GK k) (I:GK d):cq 205 [.a (bG k),.a (bG d)] [.c (.s ((qO k d).length) (aD ah (qO k d))),.c (.i .i64 (AR k d))]:=by
 apply bE Tryz.func205 rfl;refine ac rfl (aaA D I) ?_;refine dg rfl (fun j=>?_) (fun j=>?_)
 .refine ac rfl (iG (az D.q) (az I.q)) ?_;refine dg rfl (fun A=>?_) (fun A=>?_)
  .apply ae;rw[(Tm j A).1,(Tm j A).2];exact aj (aj aa)
  .apply ae;rw[(SN j A).1,(SN j A).2];exact aj (aj aa)
 .refine ac rfl (afl D I j)<|ac rfl (abR (Bp D I j) D)<|ae ?_;rw[(Rx j).1,(Rx j).2];exact aj (aj aa)
theorem agT (I:GK k) (D:GK d):cq 203 [.a (bG k),.a (bG d)] [.c (.b (kr k d))]:=by
 apply bE Tryz.func203 rfl;refine ac rfl (iG (az I.x) (az D.x)) ?_;refine iN (aY rfl) (fun c1 j=>?_);cases c1
 .refine ar (aY rfl)<|ae ?_;rw[show kr k d=false from by unfold kr ue;rw[j];rfl];exact aj aa
 .refine ac rfl (iG (az I.y) (az D.y)) ?_;refine iN (aY rfl) (fun c2 A=>?_);cases c2
  .apply ae;rw[show kr k d=false from by unfold kr ue;rw[j,A];rfl];exact aj aa
  .refine ac rfl (iG (az I.q) (az D.q))<|ae ?_;rw[show kr k d=(aG k.q d.q==0) from by unfold kr ue;rw[j,A];rfl];exact aj aa
theorem agN (hl:GL l) (hm:GL m):cq 204 [.a (dh l),.a (dh m)] [.c (.b (Cz l m))]:=by
 refine bE Tryz.func204 rfl<|cm 41 [] ?_;refine aw rfl (cz (az hl.a) (az hm.b)) ?_;refine aw rfl (cz (az hl.b) (az hm.a)) ?_;refine aw rfl (iG (az (al hl.a hm.b)) (az (al hl.b hm.a))) ?_;refine zQ (aY rfl) (fun c1 j=>?_);cases c1
 .refine aq (aY rfl)<|ae ?_;rw[show Cz l m=false from by unfold Cz ue;rw[j];rfl];exact aj aa
 .refine aw rfl (cz (az hl.a) (az hm.c)) ?_;refine aw rfl (cz (az hl.c) (az hm.a)) ?_;refine aw rfl (iG (az (al hl.a hm.c)) (az (al hl.c hm.a))) ?_;refine zQ (aY rfl) (fun c2 A=>?_);cases c2
  .apply ae;rw[show Cz l m=false from by unfold Cz ue;rw[j,A];rfl];exact aj aa
  .refine aw rfl (cz (az hl.b) (az hm.c)) ?_;refine aw rfl (cz (az hl.c) (az hm.b)) ?_;refine aw rfl (iG (az (al hl.b hm.c)) (az (al hl.c hm.b)))<|ae ?_;rw[show Cz l m=(aG (l.b*m.c) (l.c*m.b)==0) from by unfold Cz ue;rw[j,A];rfl];exact aj aa
theorem Sx (hl:GL l) (_I:GP f) (_A:GP t) (hm:GL m) {v:Pt}(_D:GP u) (_j:GP v):cq 123 [.a (([.b false]++dh l++g9++[.b false]++ah f++ah t)),.a (([.b false]++dh m++g9++[.b false]++ah u++ah v))] [.c (.b (lF (Cv.seg l f t) (Cv.seg m u v)))]:=by apply bE Tryz.func123 rfl;refine ar (bg gC rfl) ?_;refine ar (bg gC rfl) ?_;refine ar (eA rfl rfl dX rfl) ?_;refine mL rfl<|ar (bg gC rfl)<|mL rfl<|ar (df (dh l) rG rfl (by kernel_rfl)) ?_;refine ar (df (dh m) rG rfl (by kernel_rfl)) ?_;refine ac rfl (agN hl hm) ?_;exact ae (aj aa)
theorem Xk (hl:GL l) (_I:GP f) (_A:GP t) (hm:GL m) {v:Pt}(_D:GP u) (_j:GP v):cq 124 [.a (([.b false]++dh l++g9++[.b false]++ah f++ah t)),.a (([.b false]++dh m++g9++[.b false]++ah u++ah v))] [.c (.s ((oD (Cv.seg l f t) (Cv.seg m u v)).length) (aD ah (oD (Cv.seg l f t) (Cv.seg m u v)))),.c (.i .i64 (Kb (Cv.seg l f t) (Cv.seg m u v)))]:=by apply bE Tryz.func124 rfl;refine ar (bg gC rfl) ?_;refine ar (aY rfl) ?_;apply mL rfl;refine ar (bg gC rfl) ?_;apply mL rfl;refine ar (bg gC rfl) ?_;apply mL rfl;refine ar (df (dh l) rG rfl (by kernel_rfl)) ?_;refine ar (df (dh m) rG rfl (by kernel_rfl)) ?_;refine ac rfl (agW hl hm) ?_;exact ae (aj (aj aa))
theorem S3 (_hl:GL l) (_J:GP f) (_A:GP t) (_I:GK d) {v:Pt}(_D:GP u) (_j:GP v):cq 123 [.a (([.b false]++dh l++g9++[.b false]++ah f++ah t)),.a (([.b true]++lp++bG d++[.b w2]++ah u++ah v))] [.c (.b (lF (Cv.seg l f t) (Cv.arc d w2 u v)))]:=by apply bE Tryz.func123 rfl;refine ar (bg gC rfl) ?_;refine ar (bg gC rfl) ?_;refine ar (eA rfl rfl dX rfl) ?_;apply n7 rfl;exact ae (aj aa)
theorem XC (hl:GL l) (_J:GP f) (_D:GP t) (j:GK d) {v:Pt}(_I:GP u) (_A:GP v):cq 124 [.a (([.b false]++dh l++g9++[.b false]++ah f++ah t)),.a (([.b true]++lp++bG d++[.b w2]++ah u++ah v))] [.c (.s ((oD (Cv.seg l f t) (Cv.arc d w2 u v)).length) (aD ah (oD (Cv.seg l f t) (Cv.arc d w2 u v)))),.c (.i .i64 (Kb (Cv.seg l f t) (Cv.arc d w2 u v)))]:=by apply bE Tryz.func124 rfl;refine ar (bg gC rfl) ?_;refine ar (aY rfl) ?_;apply mL rfl;refine ar (bg gC rfl) ?_;apply mL rfl;refine ar (bg gC rfl) ?_;apply n7 rfl;refine ar (df (dh l) rG rfl (by kernel_rfl)) ?_;refine ar (df (bG d) n9 rfl (by kernel_rfl)) ?_;refine ac rfl (abR hl j) ?_;exact ae (aj (aj aa))
theorem Uc (_I:GK k) (_J:GP f) (_A:GP t) (_hm:GL m) {v:Pt}(_D:GP u) (_j:GP v):cq 123 [.a (([.b true]++lp++bG k++[.b w]++ah f++ah t)),.a (([.b false]++dh m++g9++[.b false]++ah u++ah v))] [.c (.b (lF (Cv.arc k w f t) (Cv.seg m u v)))]:=by apply bE Tryz.func123 rfl;refine ar (bg gC rfl) ?_;refine ar (bg gC rfl) ?_;refine ar (eA rfl rfl dX rfl) ?_;apply n7 rfl;exact ae (aj aa)
theorem Xw (j:GK k) (_J:GP f) (_D:GP t) (hm:GL m) {v:Pt}(_I:GP u) (_A:GP v):cq 124 [.a (([.b true]++lp++bG k++[.b w]++ah f++ah t)),.a (([.b false]++dh m++g9++[.b false]++ah u++ah v))] [.c (.s ((oD (Cv.arc k w f t) (Cv.seg m u v)).length) (aD ah (oD (Cv.arc k w f t) (Cv.seg m u v)))),.c (.i .i64 (Kb (Cv.arc k w f t) (Cv.seg m u v)))]:=by apply bE Tryz.func124 rfl;refine ar (bg gC rfl) ?_;refine ar (aY rfl) ?_;refine ar (bg gC rfl) ?_;apply mL rfl;refine ar (bg gC rfl) ?_;apply n7 rfl;refine ar (df (dh m) rG rfl (by kernel_rfl)) ?_;refine ar (df (bG k) n9 rfl (by kernel_rfl)) ?_;refine ac rfl (abR hm j) ?_;exact ae (aj (aj aa))
theorem Rb (A:GK k) (_R:GP f) (_I:GP t) (j:GK d) {v:Pt}(_J:GP u) (_D:GP v):cq 123 [.a (([.b true]++lp++bG k++[.b w]++ah f++ah t)),.a (([.b true]++lp++bG d++[.b w2]++ah u++ah v))] [.c (.b (lF (Cv.arc k w f t) (Cv.arc d w2 u v)))]:=by apply bE Tryz.func123 rfl;refine ar (bg gC rfl) ?_;refine ar (bg gC rfl) ?_;refine ar (eA rfl rfl dX rfl) ?_;refine mL rfl<|ar (bg gC rfl)<|n7 rfl ?_;refine ar (df (bG k) n9 rfl (by kernel_rfl)) ?_;refine ar (df (bG d) n9 rfl (by kernel_rfl)) ?_;refine ac rfl (agT A j) ?_;exact ae (aj aa)
theorem WB (A:GK k) (_R:GP f) (_I:GP t) (j:GK d) {v:Pt}(_J:GP u) (_D:GP v):cq 124 [.a (([.b true]++lp++bG k++[.b w]++ah f++ah t)),.a (([.b true]++lp++bG d++[.b w2]++ah u++ah v))] [.c (.s ((oD (Cv.arc k w f t) (Cv.arc d w2 u v)).length) (aD ah (oD (Cv.arc k w f t) (Cv.arc d w2 u v)))),.c (.i .i64 (Kb (Cv.arc k w f t) (Cv.arc d w2 u v)))]:=by apply bE Tryz.func124 rfl;refine ar (bg gC rfl) ?_;refine ar (aY rfl) ?_;refine ar (bg gC rfl) ?_;apply n7 rfl;refine ar (df (bG k) n9 rfl (by kernel_rfl)) ?_;refine ar (df (bG d) n9 rfl (by kernel_rfl)) ?_;refine ac rfl (afR A j) ?_;exact ae (aj (aj aa))
end Go.Proofs.YtegeknjkgadehaaGreat
