/-The curves of a draft:the reference. -/
import Derived.Test.YtegeknjkgadehaaGreatTwQ
namespace Go.Proofs.YtegeknjkgadehaaGreat
open Go Go.RowKit
variable {w:Bool}{k:Ci}{c d:Cv}{l:Ln}{f p t:Pt}{a b:Rat}
theorem V3 {c d:Rat}(E:Rz 1 a) (x:Rz 1 b) (D:Rz 1 c) (u:Rz 1 d) (j:b-d=0/\c-a=0):Ok Tryz.prog 199 [.a ((cR a++cR b)),.a ((cR c++cR d))] [.a (mG),.c (.i .i64 6)]:=by
 refine cj Tryz.func199 rfl<|cE 12 [] ?_;refine aG rfl (rd (aU x) (aU u)) ?_;refine aG rfl (rd (aU D) (aU E)) ?_;refine aq (az (us:=(cR (b-d)++cR (c-a)++Sc)) U2 RR rfl rfl rfl) ?_;refine ac rfl (bX) ?_;refine jC (aQ rfl) (fun y h=>?_);cases y;·exact absurd h (by simp[jE.2 j.1])
 ·refine ac rfl (bX) ?_;refine cU rfl (fun g=>?_) (fun g=>?_)
  ·refine ar (az (us:=mG) U2 RR rfl rfl rfl) ?_;exact ah (a7 zq rfl (aj aa))
  ·exact absurd g (by simp[jE.2 j.2])
theorem aek {c d:Rat}(h:Rz 1 a) (g:Rz 1 b) (u:Rz 1 c) (j:Rz 1 d) (D: ¬(b-d=0/\c-a=0)):Ok Tryz.prog 199 [.a ((cR a++cR b)),.a ((cR c++cR d))] [.a ((cR (b-d)++cR (c-a)++cR ((b-d)*a+(c-a)*b))),.c (.i .i64 0)]:=by
 refine cj Tryz.func199 rfl<|cE 12 [] ?_;refine aG rfl (rd (aU g) (aU j)) ?_;refine aG rfl (rd (aU u) (aU h)) ?_;refine aq (az (us:=(cR (b-d)++cR (c-a)++Sc)) U2 RR rfl rfl rfl) ?_;refine ac rfl (bX) ?_;refine jC (aQ rfl) (fun E y=>?_);cases E
 ·refine nM rfl<|cE 12 [] ?_;refine aG rfl (eX (aU (dz g j)) (aU h)) ?_;refine aG rfl (eX (aU (dz u h)) (aU g)) ?_;refine aG rfl (qJ (aU (aW (dz g j) h)) (aU (aW (dz u h) g))) ?_;refine n8 (bh (us:=(cR (b-d)++cR (c-a)++cR (((b-d)*a)+((c-a)*b)))) bV rfl rfl rfl rfl (eQ rfl) rfl rfl) ?_;exact ah (a7 zq rfl (aj aa))
 ·refine ac rfl (bX) ?_;refine cU rfl (fun x=>?_) (fun x=>?_);·exact absurd ⟨jE.1 (by simpa using y),jE.1 (by simpa using x)⟩ D
  ·refine cE 12 [] ?_;refine aG rfl (eX (aU (dz g j)) (aU h)) ?_;refine aG rfl (eX (aU (dz u h)) (aU g)) ?_;refine aG rfl (qJ (aU (aW (dz g j) h)) (aU (aW (dz u h) g))) ?_;refine n8 (bh (us:=(cR (b-d)++cR (c-a)++cR (((b-d)*a)+((c-a)*b)))) bV rfl rfl rfl rfl (eQ rfl) rfl rfl) ?_;exact ah (a7 zq rfl (aj aa))
theorem L5 {c d:Rat}(x:Rz 1 a) (h:Rz 1 b) (j:Rz 1 c) (g:Rz 1 d) (u:b-d=0/\c-a=0):Ok Tryz.prog 121 [.a ((cR a++cR b)),.a ((cR c++cR d))] [.a (([.b false]++mG++mG++[.b false]++zP5++zP5)),.c (.i .i64 6)]:=by refine fg Tryz.func121 23 [.cell 4 53,.tmp 5] rfl<|ab<|ag<|ab<|ag ?_;refine ac rfl (V3 x h j g u)<|ab<|ab<|ag ?_;refine gO rfl<|ab<|cB<|cV (az (us:=([.b false]++mG++mG++[.b false]++zP5++zP5)) Uu Kv rfl rfl rfl) ?_;refine jA<|bc ?_;exact ah (li (us:=([.b false]++mG++mG++[.b false]++zP5++zP5)) bg rfl rfl (by kernel_rfl) (by kernel_rfl) (aj aa))
theorem YE {c d:Rat}(x:Rz 1 a) (h:Rz 1 b) (j:Rz 1 c) (g:Rz 1 d) (u: ¬(b-d=0/\c-a=0)):Ok Tryz.prog 121 [.a ((cR a++cR b)),.a ((cR c++cR d))] [.a (([.b false]++eJ (ab2 a b c d)++mG++[.b false]++ai (rP a b)++ai (rP c d))),.c (.i .i64 0)]:=by refine fg Tryz.func121 23 [.cell 4 53,.tmp 5] rfl<|ab<|ag<|ab<|ag ?_;refine ac rfl (aek x h j g u)<|ab<|ab<|ag ?_;refine cT rfl<|au<|ab<|nP 6 rfl rfl<|dU 2 ?_;refine bG (j9 rfl (xm))<|dU 1<|bG (j9 rfl (xm))<|bG (az (us:=([.b false]++(cR (b-d)++cR (c-a)++cR ((b-d)*a+(c-a)*b))++mG++[.b false]++(cR a++cR 0++cR b++cR 0++cR 0)++(cR c++cR 0++cR d++cR 0++cR 0))) Uu Kv rfl rfl rfl) ?_;refine mP<|dE<|jA<|bc ?_;exact ah (li (us:=([.b false]++(cR (b-d)++cR (c-a)++cR ((b-d)*a+(c-a)*b))++mG++[.b false]++(cR a++cR 0++cR b++cR 0++cR 0)++(cR c++cR 0++cR d++cR 0++cR 0))) bg rfl rfl (by kernel_rfl) (by kernel_rfl) (aj aa))
theorem YZ (g:GK k):Ok Tryz.prog 198 [.a (dy k)] [.a (ai (ov k)),.a (ai (nZ k))]:=by have o1:Rz 6000000 (1:Rat):=ow.m_;refine cj Tryz.func198 rfl<|ac rfl (FX (qQ (by decide) (by decide)) (show((1:Int):Rat)=1 from rfl))<|ac rfl (FX (qQ (by decide) (by decide)) (show((0:Int):Rat)=0 from rfl))<|cE 19 [] ?_;refine aG rfl (wX o1) ?_;refine aG rfl (Le (g.x.m_) (ow.neg.m_) (g.y.m_) (iO (by decide)) (g.q.m_)) ?_;refine aG rfl (Le (g.x.m_) (ow.m_) (g.y.m_) (iO (by decide)) (g.q.m_)) ?_;exact ah (a7 bo rfl (a7 bo rfl aa))
theorem Wb (g:GK k):Ok Tryz.prog 120 [.a (dy k)] [.c (.s 2 (am (Yi mG) (DM k)))]:=by refine fg Tryz.func120 19 [.tmp 2] rfl<|ab<|ag<|ab<|ag ?_;refine ac rfl (YZ g)<|ab<|cB<|i9 3 ?_;refine cV (az (us:=([.b true]++mG++dy k++[.b false]++ai (ov k)++ai (nZ k))) Uu Kv rfl rfl rfl) ?_;refine i9 3<|cV (az (us:=([.b true]++mG++dy k++[.b false]++ai (nZ k)++ai (ov k))) Uu Kv rfl rfl rfl) ?_;refine cV (br (n:=2) (us:=([.b true]++mG++dy k++[.b false]++ai (ov k)++ai (nZ k))++([.b true]++mG++dy k++[.b false]++ai (nZ k)++ai (ov k))) eF rfl (by kernel_rfl) (by kernel_rfl) (by decide) (by decide) rfl) ?_;refine jA<|bc ?_;exact ah (aj aa)
theorem aac (g:GK k):Ok Tryz.prog 120 [.a (dy k)] [.c (.s ((DM k).length) (am an (DM k)))]:=(Wb g).wks ((wkA rfl _ _ _ _).app ((wkA rfl _ _ _ _).app .nil))
theorem Gc (D:GK k) (u:GP f) (x:GP t) (j:GP p):Ok Tryz.prog 236 [.a (([.b true]++qx++dy k++[.b w]++ai f++ai t)),.a (ai p)] [.c (.b ((Cv.arc k w f t).inner p))]:=by
 refine cj Tryz.func236 rfl ?_;refine ar (jF bg rfl) ?_;refine ac rfl (YP D u x j) ?_;refine jC (aQ rfl) (fun y g=>?_);cases y
 ·refine ar (aQ rfl)<|ah ?_;rw[ae1 (c:=(Cv.arc k w f t)) (p:=p) g];exact aj aa
 ·refine ar (dh (ai f) bo rfl (by kernel_rfl)) ?_;refine ac rfl (pO u j) ?_;refine jC (aQ rfl) (fun c2 h=>?_);cases c2
  ·refine ah ?_;rw[aap (c:=(Cv.arc k w f t)) (p:=p) g h];exact aj aa
  ·refine ar (dh (ai t) bo rfl (by kernel_rfl)) ?_;refine ac rfl (pO x j)<|ah ?_;rw[aai (c:=(Cv.arc k w f t)) (p:=p) g h];exact aj aa
theorem yEX {q:Pt}(h:GP p) (g:GP q):Ok Tryz.prog 363 [.a ((cR p.a1++cR p.b1++cR (zc p.b1 p.c))),.a ((cR q.a1++cR q.b1++cR (zc q.b1 q.c)))] [.c (.b (cx p q==0))]:=by refine cj Tryz.func363 rfl ?_;refine ac rfl (yCX h g) ?_;exact ah (aj aa)
theorem Mw (_hl:GL l) (g:GP f) (h:GP t):Ok Tryz.prog 336 [.a (([.b false]++eJ l++mG++[.b false]++ai f++ai t))] [.c (.b ((Cv.seg l f t).vert))]:=by refine cj Tryz.func336 rfl<|cE 13 [] ?_;refine aq (dL jY rfl) ?_;refine aq (aQ rfl) ?_;refine aq (dh (ai f) bo rfl (by kernel_rfl)) ?_;refine aG rfl (qj) ?_;refine aq (dh (ai t) bo rfl (by kernel_rfl)) ?_;refine aG rfl (qj) ?_;refine aG rfl (yEX g h) ?_;exact ah (aj aa)
theorem LV (_h:GK k) (_g:GP f) (_j:GP t):Ok Tryz.prog 336 [.a (([.b true]++qx++dy k++[.b w]++ai f++ai t))] [.c (.b ((Cv.arc k w f t).vert))]:=by refine cj Tryz.func336 rfl<|cE 13 [] ?_;refine aq (dL jY rfl) ?_;refine aq (aQ rfl) ?_;exact ah (aj aa)
theorem Gq (h:CvV c):Ok Tryz.prog 128 [.a (an c)] [.a (an c.rev)]:=by
 cases c with
 |seg l f t=>exact S2 h.g.1 h.g.2.1 h.g.2.2
 |arc k w f t=>exact SH h.g.1 h.g.2.1 h.g.2.2
theorem Xs {c:Rat}(h:Rz 6000000 a) (g:Rz 6000000 b):Ok Tryz.prog 339 [.a ((cR a++cR b++cR c))] [.a ((cR (-a)++cR (-b)++cR c))]:=by refine cj Tryz.func339 rfl<|cE 9 [] ?_;refine aG rfl (eY (aU h)) ?_;refine aG rfl (eY (aU g)) ?_;refine aq (az (us:=(cR (-a)++cR (-b)++cR c)) Cu Aj rfl rfl rfl) ?_;exact ah (a7 jG rfl aa)
theorem QR:Ok Tryz.prog 364 [] [dR 1]:=by refine cj Tryz.func364 rfl<|ac rfl (FX (qQ (by decide) (by decide)) (show((1:Int):Rat)=1 from rfl)) ?_;exact ah (a7 bV rfl aa)
theorem Ue {c:Rat}(h:Rz 400000 a) (g:Rz 400000 b) (u:Rz 400000 c) (H:s3 a b c≠0) (D:a*a-b*b*c≠0):Ok Tryz.prog 337 [.a ((cR a++cR b++cR c))] [.a ((cR (a*F7 a b c)++cR (rB (-(b*F7 a b c)) c)++cR (rC (-(b*F7 a b c)) c))),.c (.i .i64 0)]:=by
 have I:Rz 6000000 a:=h.m_;have kb:Rz 6000000 b:=g.m_;have o1:Rz 6000000 (1:Rat):=ow.m_;have y:Rz 2000100 (a*a-b*b*c):=((h.mul h).sub ((g.mul g).mul u)).m_;have x:Rz 2000400 (F7 a b c):=(ow.div y D).m_;have J:Rz 6000000 (F7 a b c):=x.m_;have K:Rz 6000000 (b*F7 a b c):=(g.mul x).m_;have E:Rz 6000000 (a*a-b*b*c):=y.m_;refine cj Tryz.func337 rfl<|ac rfl (pe (h.m_) (g.m_) (u.m_)) ?_;refine cU rfl (fun j=>?_) (fun j=>?_);·exact absurd (by simpa using j) H
 ·refine cE 10 [4,999999]<|aG rfl (QR) ?_;refine aG rfl (A8 (h.m_) (g.m_) (u.m_)) ?_;refine aG rfl ((show Ok Tryz.prog 323 _ [dR (F7 a b c),.c (.i .i64 0)] from xh o1 E D)) ?_;refine DQ.mk<|kI (fJ bV rfl) rfl rfl rfl rfl<|ek ?_;refine cE 12 [] ?_;refine aG rfl (cY (by first|assumption|exact fp h (by decide)) (by first|assumption|exact fp (by assumption) (by decide))) ?_;refine aG rfl (cY (by first|assumption|exact fp g (by decide)) (by first|assumption|exact fp (by assumption) (by decide))) ?_;refine aG rfl (eY (by first|assumption|exact fp (aW g (by assumption)) (by decide))) ?_;refine aG rfl (oh) ?_;exact ah (a7 jG rfl (aj aa))
theorem abI (hl:GL l) (j:GP f) (u:GP t) (_x:GP p) (h:cx f t=0) (_y:l.b=0):Ok Tryz.prog 306 [.a (([.b false]++eJ l++mG++[.b false]++ai f++ai t)),.a (ai p)] [.a (([.i .i64 2]++mG))]:=by
 refine cj Tryz.func306 rfl<|ar (jF bg rfl)<|ac rfl (Mw hl j u) ?_;refine cU rfl (fun g=>?_) (fun g=>?_)
 ·refine ar (az (us:=([.i .i64 2]++mG)) GQ D8 rfl rfl rfl) ?_;refine n8 (fJ sZ rfl) ?_;exact ah (a7 sZ rfl aa)
 ·exact absurd g (by rw[show(Cv.seg l f t).vert=(cx f t==0) from rfl,h];decide)
theorem acb (hl:GL l) (j:GP f) (x:GP t) (_y:GP p) (h:cx f t≠0) (u:l.b≠0):Ok Tryz.prog 306 [.a (([.b false]++eJ l++mG++[.b false]++ai f++ai t)),.a (ai p)] [.a (([.i .i64 0]++(cR (-l.a/l.b)++cR 0++cR 0)))]:=by
 refine cj Tryz.func306 rfl<|ar (jF bg rfl)<|ac rfl (Mw hl j x) ?_;refine cU rfl (fun g=>?_) (fun g=>?_);·exact absurd (by simpa using(show(cx f t==0)=true from g)) h
 ·refine ar (dL jY rfl)<|vr rfl<|cE 14 [5,999999] ?_;refine aq (dh (cR l.a) bV rfl (by kernel_rfl)) ?_;refine aG rfl (eY (by first|assumption|exact hl.a.m_)) ?_;refine aq (dh (cR l.b) bV rfl (by kernel_rfl))<|aG rfl (xh (hl.a.neg.m_) (hl.b.m_) u) ?_;refine DQ.mk<|kI (fJ bV rfl) rfl rfl rfl rfl<|ek ?_;refine ac rfl (mq)<|ar (az (us:=([.i .i64 0]++(cR (-l.a/l.b)++cR 0++cR 0))) GQ D8 rfl rfl rfl) ?_;refine n8 (fJ sZ rfl) ?_;exact ah (a7 sZ rfl aa)
theorem ZL (j:GK k) (I:GP f) (N:GP t) (g:GP p) (J:mA p k.y=0):Ok Tryz.prog 306 [.a (([.b true]++qx++dy k++[.b w]++ai f++ai t)),.a (ai p)] [.a (([.i .i64 (if w then 1 else-1)]++mG))]:=by
 obtain⟨E,H⟩:=abx j g;have K:Rz 78 (zc p.b1 p.c):=jh g.c (by decide);have D:Rz 78 (zc p.b2 p.c):=jh g.c (by decide);have U:Rz 6000000 k.x:=j.x.m_;have W:Rz 6000000 k.y:=j.y.m_;have zf:Rz 500000 (0:Rat):=iO (by decide);have R:Rz 6000000 (p.a1-k.x):=E.m_;have j2:Rz 6000000 p.b1:=g.b1.m_;refine cj Tryz.func306 rfl<|ar (jF bg rfl)<|ac rfl (LV j I N)<|nM rfl<|ar (dL jY rfl)<|nM rfl<|cE 8 [] ?_;refine aG rfl (qj) ?_;refine aq (dh (cR k.x) bV rfl (by kernel_rfl)) ?_;refine aG rfl (eY (by first|assumption|exact hl.a.m_)) ?_;refine aG rfl (rN (lX (g.a1.m_) (j.x.neg.m_)) (EM _ _) rfl rfl)<|cE 8 [] ?_;refine aG rfl (zF) ?_;refine aq (dh (cR k.y) bV rfl (by kernel_rfl)) ?_;refine aG rfl (eY (by first|assumption|exact hl.a.m_)) ?_;refine aG rfl (rN (lX (g.a2.m_) (j.y.neg.m_)) (EM _ _) rfl rfl)<|ac rfl (CS (pe (H.m_) (g.b2.m_) (D.m_)) (Qu g)) ?_;refine cU rfl (fun u=>?_) (fun u=>?_)
 ·refine ar (dL jY rfl) ?_;refine cU rfl (fun h=>?_) (fun h=>?_)
  ·refine ar (az (us:=([.i .i64 1]++mG)) GQ D8 rfl rfl rfl) ?_;refine n8 (fJ sZ rfl)<|ah ?_;rw[show(if w then 1 else-1:Int)=1 from if_pos h];exact a7 sZ rfl aa
  ·refine ar (az (us:=([.i .i64 (-1)]++mG)) GQ D8 rfl rfl rfl) ?_;refine n8 (fJ sZ rfl)<|ah ?_;rw[show(if w then 1 else-1:Int)= -1 from if_neg (by rw[h];decide)];exact a7 sZ rfl aa
 ·exact absurd u (by rw[J];decide)
theorem abt (h:GK k) (R:GP f) (W:GP t) (g:GP p) (D:mA p k.y≠0):Ok Tryz.prog 306 [.a (([.b true]++qx++dy k++[.b w]++ai f++ai t)),.a (ai p)] [.a (([.i .i64 0]++(cR (NH k p)++cR (vn k p)++cR (zc (vn k p) p.c))))]:=by
 obtain⟨I,E⟩:=abx h g;have H:Rz 78 (zc p.b1 p.c):=jh g.c (by decide);have j:Rz 78 (zc p.b2 p.c):=jh g.c (by decide);have kx:Rz 6000000 k.x:=h.x.m_;have ky:Rz 6000000 k.y:=h.y.m_;have zf:Rz 500000 (0:Rat):=iO (by decide);have K:Rz 6000000 (p.a1-k.x):=I.m_;have U:Rz 6000000 p.b1:=g.b1.m_;have N:=O1 g D;obtain⟨J,v2⟩:=YO h g D;have w1:Rz 500000 ((p.a2-k.y)*vu k p):=(E.mul J).m_;have w2:Rz 500000 (-p.b2*vu k p):=(g.b2.neg.mul J).m_;have w3:Rz 78 (zc (-p.b2*vu k p) (zc p.b2 p.c)):=jh j (by decide);refine cj Tryz.func306 rfl<|ar (jF bg rfl)<|ac rfl (LV h R W)<|nM rfl<|ar (dL jY rfl)<|nM rfl<|cE 8 [] ?_;refine aG rfl (qj) ?_;refine aq (dh (cR k.x) bV rfl (by kernel_rfl)) ?_;refine aG rfl (eY (by first|assumption|exact hl.a.m_)) ?_;refine aG rfl (rN (lX (g.a1.m_) (h.x.neg.m_)) (EM _ _) rfl rfl)<|cE 8 [] ?_;refine aG rfl (zF) ?_;refine aq (dh (cR k.y) bV rfl (by kernel_rfl)) ?_;refine aG rfl (eY (by first|assumption|exact hl.a.m_)) ?_;refine aG rfl (rN (lX (g.a2.m_) (h.y.neg.m_)) (EM _ _) rfl rfl)<|ac rfl (CS (pe (E.m_) (g.b2.m_) (j.m_)) (Qu g)) ?_;refine cU rfl (fun u=>?_) (fun u=>?_);·exact absurd (by simpa using u) D
 ·refine ac rfl (xz (y':= -p.b2*vu k p) (z':=zc (-p.b2*vu k p) (zc p.b2 p.c)) (Ue (E.m_) (g.b2.m_) (j.m_) (by rw[Qu g];exact D) N) (show _=(p.a2-k.y)*vu k p from rfl) (acX g) (afj g))<|cE 10 [11,999999] ?_;refine aG rfl (Xs K U) ?_;refine aG rfl (xz (x':=NH k p) (y':=vn k p) (z':=zc (vn k p) p.c) (EU (I.neg.m_) (g.b1.neg.m_) (H.m_) (w1.m_) (w2.m_) (w3.m_) aaG) afW (ac8 g) (afy g)) ?_;refine DQ.mk<|kI (fJ jG rfl) rfl rfl rfl rfl<|ek ?_;refine ar (az (us:=([.i .i64 0]++(cR (NH k p)++cR (vn k p)++cR (zc (vn k p) p.c)))) GQ D8 rfl rfl rfl) ?_;refine n8 (fJ sZ rfl) ?_;exact ah (a7 sZ rfl aa)
theorem rSl (h:CvV c) (D:GP p):Ok Tryz.prog 306 [.a (an c),.a (ai p)] [.a (Hj (c.slp p))]:=by
 cases c with
 |seg l f t=>
  have hl:=h.g.1;have u:=h.g.2.1;have x:=h.g.2.2;show Ok _ _ _ [.a (Hj (if l.b=0 then Slp.vt else .vl (-l.a/l.b) 0 0))];by_cases j:l.b=0;·rw[if_pos j];exact abI hl u x D ((Tm hl u x (by have:=h.sp;simpa [Cv.supp,Cv.p] using this) (by have:=h.sq;simpa [Cv.supp,Cv.q] using this) h.ne).2 j) j
  ·rw[if_neg j];exact acb hl u x D (fun e=>j ((Tm hl u x (by have:=h.sp;simpa [Cv.supp,Cv.p] using this) (by have:=h.sq;simpa [Cv.supp,Cv.q] using this) h.ne).1 e)) j
 |arc k w f t=>
  have E:=h.g.1;have u:=h.g.2.1;have x:=h.g.2.2;show Ok _ _ _ [.a (Hj (if mA p k.y=0 then Slp.st (if w then 1 else-1) else .vl (NH k p) (vn k p) (zc (vn k p) p.c)))];by_cases j:mA p k.y=0;·rw[if_pos j];exact ZL E u x D j
  ·rw[if_neg j];exact abt E u x D j
theorem Q8 (j:c.good) (g:d.good) (ac:c.isArc=true) (h:d.isArc=true):Ok Tryz.prog 98 [.a c.qc,.a d.qc] [.c (.i .i64 (aJ c.qq d.qq))]:=by
 cases c with
 |seg l f t=>cases ac
 |arc k w f t=>
  cases d with
  |seg l f t=>cases h
  |arc u w2 x t2=>exact gZ (j.1.q.mono (by decide)) (g.1.q.mono (by decide))
theorem rBd:Ok Tryz.prog 340 [.a (an c)] [.c (.i .i64 c.bnd)]:=by
 refine cj Tryz.func340 rfl ?_;refine ar (cK jY rfl rfl (rm _) rfl) ?_;refine cU rfl (fun g=>?_) (fun g=>?_)
 ·refine ah ?_;rw[aeW g];exact aj aa
 ·refine ar (cK jY rfl rfl (wY _) rfl) ?_;refine cU rfl (fun h=>?_) (fun h=>?_)
  ·refine ah ?_;rw[ZP g h];exact aj aa
  ·refine ah ?_;rw[aaM g h];exact aj aa
theorem acx (x:c.good) (u:d.good):Ok Tryz.prog 307 [.a (an c),.a (an d)] [.c (.i .i64 (Do c d))]:=by
 have y:=SQ c;have D:=SQ d;have E:=gY (s:= -c.bnd) (t:=aJ c.qq d.qq) (by omega) (dF _ _);refine cj Tryz.func307 rfl<|cE 6 [] ?_;refine aq (eG (ae _) bg rfl) ?_;refine aG rfl (rBd) ?_;refine aq (eG (ae _) bg rfl) ?_;refine aG rfl (rBd) ?_;refine cU rfl (fun h=>?_) (fun h=>?_)
 ·refine cU rfl (fun g=>?_) (fun g=>?_)
  ·refine ah ?_;rw[WV g];exact aj aa
  ·refine ah ?_;rw[Wj g (decide_eq_true (by have q1:=of_decide_eq_false g;have q2: ¬c.bnd=d.bnd:=(by simpa using h);omega))];exact aj aa
 ·have q0:c.bnd=d.bnd:=by simpa using h
  refine cU rfl (fun j=>?_) (fun j=>?_)
  ·refine ah ?_;rw[abH q0 (by simpa using j)];exact aj aa
  ·have q1:c.bnd≠0:=by simpa using j
   refine ar (fQ (r:= -c.bnd) rfl (EI y) rfl) ?_;refine ar (bb (us:=c.qc) bV rfl rfl (AX _) (FF _) rfl) ?_;refine ar (bb (us:=d.qc) bV rfl rfl (AX _) (FF _) rfl) ?_;refine ac rfl (Q8 x u (Pr q1) (Pr (q0▸q1)))<|ar (b9 ((-c.bnd)*(aJ c.qq d.qq)) (d9 (by omega) (by omega)) rfl)<|ah ?_;rw[L7 (decide_eq_false (by omega)) (decide_eq_false (by omega))];exact aj aa
theorem acF {u v z x j z2:Rat}(h:VSz u v z) (g:VSz x j z2):Ok Tryz.prog 208 [.a ((cR u++cR v++cR z)),.a ((cR x++cR j++cR z2))] [.c (.i .i64 (km (u-x) v (-j) 0 z z2))]:=by refine cj Tryz.func208 rfl ?_;refine ac rfl (Ja (h.za.m_) (h.zb.m_) (g.za.m_) (g.zb.m_)) ?_;refine ac rfl (D7 ((h.za.sub g.za).m_) (h.zb.m_) (g.zb.neg.m_) (iO (by decide)) (h.zc.m_) (g.zc.m_)) ?_;exact ah (aj aa)
theorem acP {s t:Slp}(x:SlG s) (j:SlG t) (h:s.n=0/\t.n=0):Ok Tryz.prog 208 [.a s.cl,.a t.cl] [.c (.i .i64 (s.vcmp t))]:=by obtain⟨u,v,z,rfl⟩:=QY x h.1;obtain⟨E,D,z2,rfl⟩:=QY j h.2;have y:=x.sz _ _ _ rfl;have g:=j.sz _ _ _ rfl;exact acF y g
theorem rR_ (vc:CvV c) (vd:CvV d) {s t:Slp}(es:c.slp c.p=s) (x:d.slp d.p=t):Ok Tryz.prog 235 [.a (an c),.a (an d)] [.c (.i .i64 (BD c d)),.c (.i .i64 (Ox c d))]:=by
 have H:=vc.g;have J:=vd.g;have I:SlG s:=es▸YM H (fj H);have K:SlG t:=x▸YM J (fj J);have R: ∀n,s=.st n->c.isArc=true:=es▸MA;have at_: ∀n,t=.st n->d.isArc=true:=x▸MA;refine cj Tryz.func235 rfl ?_;refine ar (bb (us:=ai c.p) bo rfl rfl (ja _) rfl rfl) ?_;refine ar (bb (us:=ai d.p) bo rfl rfl (ja _) rfl rfl) ?_;refine ac rfl (pO (fj H) (fj J)) ?_;refine cU rfl (fun h=>?_) (fun h=>?_)
 ·have y1:=aes (c:=c) (d:=d) (by simpa using h);refine ah ?_;rw[y1.1,y1.2];exact aj (aj aa)
 ·have N:rk s (1)=s.n:=acy I;have r2:rk t (1)=t.n:=acy K;refine cE 10 [] ?_;refine aq (eG (ae _) bg rfl) ?_;refine aq (bb (us:=ai c.p) bo rfl rfl (ja _) rfl rfl) ?_;refine aG rfl ((show Ok _ _ _ [.a (Hj s)] from es▸rSl vc (fj H))) ?_;refine aq (eG (ae _) bg rfl) ?_;refine aq (bb (us:=ai d.p) bo rfl rfl (ja _) rfl rfl) ?_;refine aG rfl ((show Ok _ _ _ [.a (Hj t)] from x▸rSl vd (fj J)))<|n8 (bQ sZ rfl rfl rfl (HE _) rfl rfl) ?_;refine n8 (bQ sZ rfl rfl rfl (HE _) rfl rfl) ?_;refine ar (cK WJ rfl rfl (vV _) rfl) ?_;refine ar (cK WJ rfl rfl (vV _) rfl) ?_;refine cU rfl (fun E=>?_) (fun E=>?_)
  ·refine ar (cK WJ rfl rfl (vV _) rfl) ?_;refine ar (cK WJ rfl rfl (vV _) rfl) ?_;refine cU rfl (fun u=>?_) (fun u=>?_)
   ·have y1:=DG (c:=c) (d:=d) (by simpa using h) es x;have z1:GG c d s t (1)= -1:=aa9 (by rw[N,r2];exact u);refine ah ?_;rw[y1.1,y1.2,z1];exact aj (aj aa)
   ·have y1:=DG (c:=c) (d:=d) (by simpa using h) es x;have z1:GG c d s t (1)=1:=aan (by rw[N,r2];exact u) (by rw[N,r2];exact decide_eq_true (by have q1:=of_decide_eq_false u;have q2: ¬(s.n:Int)=t.n:=(by simpa using E);omega));refine ah ?_;rw[y1.1,y1.2,z1];exact aj (aj aa)
  ·have q1:s.n=t.n:=by simpa using E
   have q2:decide (rk s (1)<rk t (1))=false:=by rw[N,r2];exact decide_eq_false (by omega)
   have U:decide (rk s (1)>rk t (1))=false:=by rw[N,r2];exact decide_eq_false (by omega)
   refine ar (cK WJ rfl rfl (vV _) rfl) ?_;refine cU rfl (fun j=>?_) (fun j=>?_)
   ·have y1:=DG (c:=c) (d:=d) (by simpa using h) es x;have z1:GG c d s t (1)=0:=WH I K (.inl rfl) q2 U j;refine ah ?_;rw[y1.1,y1.2,z1];exact aj (aj aa)
   ·refine ar (cK WJ rfl rfl (vV _) rfl) ?_;refine cU rfl (fun y=>?_) (fun y=>?_)
    ·have y2:=VF (c:=c) (d:=d) I K (.inl rfl) q2 U j y;have qn:s.n=1\/s.n= -1:=y2.2.1.elim fun n e=>by have:=I.st n e;subst e;exact this
     have a0:=gY (s:=s.n) (t:=aJ c.qq d.qq) (by omega) (dF _ _);refine cE 12 [] ?_;refine aq (cK WJ rfl rfl (vV _) rfl) ?_;refine aq (bb (us:=c.qc) bV rfl rfl (AX _) (FF _) rfl) ?_;refine aq (bb (us:=d.qc) bV rfl rfl (AX _) (FF _) rfl) ?_;refine aG rfl (Q8 H J (y2.2.1.elim R) (y2.2.2.elim at_))<|aq (b9 (s.n*(aJ c.qq d.qq)) (d9 (by omega) (by omega)) rfl) ?_;have y1:=DG (c:=c) (d:=d) (by simpa using h) es x;have z1:=y2.1;refine ah ?_;rw[y1.1,y1.2,z1];exact aj (aj aa)
    ·have y2:=WS (c:=c) (d:=d) I K (.inl rfl) q2 U j y;have qb:=WO s t;refine ar (bb (us:=s.cl) jG rfl rfl (Qn _) (Ud _) rfl) ?_;refine ar (bb (us:=t.cl) jG rfl rfl (Qn _) (Ud _) rfl) ?_;refine ac rfl (acP I K y2.1) ?_;refine cU rfl (fun D=>?_) (fun D=>?_)
     ·have y1:=DG (c:=c) (d:=d) (by simpa using h) es x;have W: ¬s.vcmp t=0:=by simpa using D
      have z1:=y2.2;refine ah ?_;rw[if_neg W,show(1)*s.vcmp t=s.vcmp t from by omega] at z1;rw[y1.1,y1.2,z1];exact aj (aj aa)
     ·refine ar (eG (ae _) bg rfl) ?_;refine ar (eG (ae _) bg rfl) ?_;refine ac rfl (acx H J) ?_;have y1:=DG (c:=c) (d:=d) (by simpa using h) es x;have W:s.vcmp t=0:=by simpa using D
      have z1:=y2.2;refine ah ?_;rw[if_pos W] at z1;rw[y1.1,y1.2,z1];exact aj (aj aa)
theorem af7 (g:CvV c) (h:CvV d):Ok Tryz.prog 235 [.a (an c),.a (an d)] [.c (.i .i64 (BD c d)),.c (.i .i64 (Ox c d))]:=rR_ g h rfl rfl
theorem TR (y:CvV c) (D:CvV d):Ok Tryz.prog 158 [.a (an c),.a (an d)] [.c (.i .i64 (fL c d))]:=by
 have x:=y.g;have u:=D.g;refine cj Tryz.func158 rfl ?_;refine ar (bb (us:=ai c.p) bo rfl rfl (ja _) rfl rfl) ?_;refine ar (bb (us:=ai d.p) bo rfl rfl (ja _) rfl rfl) ?_;refine ac rfl (nH (fj x) (fj u)) ?_;refine cU rfl (fun h=>?_) (fun h=>?_)
 ·refine ah ?_;rw[aak h];exact aj aa
 ·refine ar (eG (ae _) bg rfl) ?_;refine ar (eG (ae _) bg rfl) ?_;refine ac rfl (af7 y D) ?_;refine cU rfl (fun j=>?_) (fun j=>?_)
  ·refine ah ?_;rw[WI h j];exact aj aa
  ·refine ar (bb (us:=ai c.q) bo rfl rfl (jL _) rfl rfl) ?_;refine ar (bb (us:=ai d.q) bo rfl rfl (jL _) rfl rfl) ?_;refine ac rfl (nH (gA x) (gA u))<|ah ?_;rw[Xz h j];exact aj aa
end Go.Proofs.YtegeknjkgadehaaGreat
