/-The angle of an arc:program and reference. -/
import Derived.Test.YtegpmhlfjkhjmaaGreatYmX
namespace Go.Proofs.YtegpmhlfjkhjmaaGreat
open Go Go.RowKit
variable {al w:Bool}{k:Ci}{v:Cv}{a b c n:Int}{L:List Ci}{G R:List Cv}{W:List Rn}{l:Ln}{p q:Pt}{A B C D M N d m x y:Rat}{r:Rn}
theorem BM (hx:Rz 6000000 x) (hy:Rz 6000000 y):Ok Tryz.prog 115 [dR x,dR y] [dR (x+y)]:=by
 refine bX Tryz.func115 rfl<|ac rfl (ja (aO hx) (aO hy)) ?_
 exact ah (aS aZ rfl ae)
theorem vV (hx:Rz 6000000 x) (hy:Rz 6000000 y):Ok Tryz.prog 117 [dR x,dR y] [dR (x-y)]:=by
 refine bX Tryz.func117 rfl<|ac rfl (eZ (aO hx) (aO hy)) ?_
 exact ah (aS aZ rfl ae)
theorem nW (hx:Rz 6000000 x) (hy:Rz 6000000 y):Ok Tryz.prog 155 [dR x,dR y] [dR (x*y)]:=by
 refine bX Tryz.func155 rfl<|ac rfl (cX (aO hx) (aO hy)) ?_
 exact ah (aS aZ rfl ae)
theorem Gg (hx:Rz 6000000 x) (hy:Rz 6000000 y):Ok Tryz.prog 84 [dR x,dR y] [dR (x+y)]:=by
 refine bX Tryz.func84 rfl<|ac rfl (cS (aO hx) (aO hy)) ?_
 exact ah (aS aZ rfl ae)
theorem RU (hx:Rz 6000000 x) (hy:Rz 6000000 y):Ok Tryz.prog 179 [dR x,dR y] [dR (x-y)]:=by
 refine bX Tryz.func179 rfl<|ac rfl (dM (aO hx) (aO hy)) ?_
 exact ah (aS aZ rfl ae)
theorem GH (hx:Rz 6000000 x) (hy:Rz 6000000 y):Ok Tryz.prog 85 [dR x,dR y] [dR (x*y)]:=by
 refine bX Tryz.func85 rfl<|ac rfl (co (aO hx) (aO hy)) ?_
 exact ah (aS aZ rfl ae)
theorem K8 {xa xb ya yb:Rat}(hA:Rz 400000 A) (hB:Rz 400000 B) (hC:Rz 400000 C) (hD:Rz 400000 D) (hxa:Rz 400000 xa) (hxb:Rz 400000 xb) (hya:Rz 400000 ya) (hyb:Rz 400000 yb) (n0: -1≤n) (n1:n≤1):Ok Tryz.prog 274 [.a ((cR A++cR B++cR C++cR D++cR M++cR N)),.a ((cR xa++cR xb)),.a ((cR ya++cR yb)),.c (.i .i64 n)] [.a ((cR (A+((n:Int):Rat)*(xa*ya))++cR (B+((n:Int):Rat)*(xb*ya))++cR (C+((n:Int):Rat)*(xa*yb))++cR (D+((n:Int):Rat)*(xb*yb))++cR M++cR N))]:=by
 have hn:Rz 3 ((n:Int):Rat):=Rz.num (by omega) (by omega)
 have hn2:Rz 6000000 ((n:Int):Rat):=hn.m_
 have k0:Rz 6000000 (xa*ya):=(hxa.mul hya).m_
 have j0:Rz 6000000 (((n:Int):Rat)*(xa*ya)):=(hn.mul (hxa.mul hya)).m_
 have k1:Rz 6000000 (xb*ya):=(hxb.mul hya).m_
 have j1:Rz 6000000 (((n:Int):Rat)*(xb*ya)):=(hn.mul (hxb.mul hya)).m_
 have k2:Rz 6000000 (xa*yb):=(hxa.mul hyb).m_
 have j2:Rz 6000000 (((n:Int):Rat)*(xa*yb)):=(hn.mul (hxa.mul hyb)).m_
 have k3:Rz 6000000 (xb*yb):=(hxb.mul hyb).m_
 have j3:Rz 6000000 (((n:Int):Rat)*(xb*yb)):=(hn.mul (hxb.mul hyb)).m_
 refine bX Tryz.func274 rfl<|ac rfl (gT (by omega) (by omega))<|cJ 11 [] ?_
 refine aK rfl (nW (by first|assumption|exact b4 hxa (by decide)) (by first|assumption|exact b4 hya (by decide))) ?_
 refine aK rfl (nW (by first|assumption|exact b4 (eG (by assumption) (by decide)) (by decide)) (by first|assumption|exact b4 (aP hxa hya) (by decide))) ?_
 refine aK rfl (BM (by first|assumption|exact b4 hA (by decide)) (by first|assumption|exact b4 (aP (eG (by assumption) (by decide)) (aP hxa hya)) (by decide))) ?_
 refine pu (aY (us:=(cR (A+((((n:Int):Rat))*(xa*ya)))++cR B++cR C++cR D++cR M++cR N)) aZ rfl rfl rfl rfl (fe rfl) rfl rfl) ?_
 refine cJ 11 [] ?_
 refine aK rfl (nW (by first|assumption|exact b4 hxb (by decide)) (by first|assumption|exact b4 hya (by decide))) ?_
 refine aK rfl (nW (by first|assumption|exact b4 (eG (by assumption) (by decide)) (by decide)) (by first|assumption|exact b4 (aP hxb hya) (by decide))) ?_
 refine aK rfl (BM (by first|assumption|exact b4 hB (by decide)) (by first|assumption|exact b4 (aP (eG (by assumption) (by decide)) (aP hxb hya)) (by decide))) ?_
 refine pu (aY (us:=(cR (A+((((n:Int):Rat))*(xa*ya)))++cR (B+((((n:Int):Rat))*(xb*ya)))++cR C++cR D++cR M++cR N)) aZ rfl rfl rfl rfl (fe rfl) rfl rfl) ?_
 refine cJ 11 [] ?_
 refine aK rfl (nW (by first|assumption|exact b4 hxa (by decide)) (by first|assumption|exact b4 hyb (by decide))) ?_
 refine aK rfl (nW (by first|assumption|exact b4 (eG (by assumption) (by decide)) (by decide)) (by first|assumption|exact b4 (aP hxa hyb) (by decide))) ?_
 refine aK rfl (BM (by first|assumption|exact b4 hC (by decide)) (by first|assumption|exact b4 (aP (eG (by assumption) (by decide)) (aP hxa hyb)) (by decide))) ?_
 refine pu (aY (us:=(cR (A+((((n:Int):Rat))*(xa*ya)))++cR (B+((((n:Int):Rat))*(xb*ya)))++cR (C+((((n:Int):Rat))*(xa*yb)))++cR D++cR M++cR N)) aZ rfl rfl rfl rfl (fe rfl) rfl rfl) ?_
 refine cJ 11 [] ?_
 refine aK rfl (nW (by first|assumption|exact b4 hxb (by decide)) (by first|assumption|exact b4 hyb (by decide))) ?_
 refine aK rfl (nW (by first|assumption|exact b4 (eG (by assumption) (by decide)) (by decide)) (by first|assumption|exact b4 (aP hxb hyb) (by decide))) ?_
 refine aK rfl (BM (by first|assumption|exact b4 hD (by decide)) (by first|assumption|exact b4 (aP (eG (by assumption) (by decide)) (aP hxb hyb)) (by decide))) ?_
 refine pu (aY (us:=(cR (A+((((n:Int):Rat))*(xa*ya)))++cR (B+((((n:Int):Rat))*(xb*ya)))++cR (C+((((n:Int):Rat))*(xa*yb)))++cR (D+((((n:Int):Rat))*(xb*yb)))++cR M++cR N)) aZ rfl rfl rfl rfl (fe rfl) rfl rfl) ?_
 exact ah (aS DJ rfl ae)
theorem WY (hk:GK k) (hp:GP p) (hq:GP q) (hm:Rz 10 m):Ok Tryz.prog 154 [.a (aV k),.a (aj p),.a (aj q),dR m] [.c (.i .i64 (D8 k p q)),.c (.i .i64 (GZ k p q m))]:=by
 obtain⟨s1,s2,s3,s4⟩:=IR hk hp hq
 obtain⟨c1,c2,c3,c4⟩:=Wf hk hp hq
 obtain⟨d1,d2,d3,d4⟩:=QZ hk hp hq hm
 have z0:Rz 400000 (0:Rat):=dJ (by decide)
 have t0:Rz 400000 (p.a1-k.x):=s1.m_
 have t1:Rz 400000 (p.a2-k.y):=s2.m_
 have t2:Rz 400000 (q.a1-k.x):=s3.m_
 have t3:Rz 400000 (q.a2-k.y):=s4.m_
 have t4:Rz 400000 (p.b1):=hp.b1.m_
 have t5:Rz 400000 (p.b2):=hp.b2.m_
 have t6:Rz 400000 (q.b1):=hq.b1.m_
 have t7:Rz 400000 (q.b2):=hq.b2.m_
 have u0:Rz 400000 ((p.a1-k.x)*(q.a1-k.x)):=(s1.mul s3).m_
 have u1:Rz 400000 (p.b1*(q.a1-k.x)):=(hp.b1.mul s3).m_
 have u2:Rz 400000 ((p.a1-k.x)*q.b1):=(s1.mul hq.b1).m_
 have u3:Rz 400000 (p.b1*q.b1):=(hp.b1.mul hq.b1).m_
 have u4:Rz 400000 ((p.a1-k.x)*(q.a2-k.y)):=(s1.mul s4).m_
 have u5:Rz 400000 (p.b1*(q.a2-k.y)):=(hp.b1.mul s4).m_
 have u6:Rz 400000 ((p.a1-k.x)*q.b2):=(s1.mul hq.b2).m_
 have u7:Rz 400000 (p.b1*q.b2):=(hp.b1.mul hq.b2).m_
 have e1:Rz 6000000 (p.a1-k.x):=s1.m_
 have dA0:Rz 6000000 ((p.a1-k.x)*(q.a1-k.x)+(p.a2-k.y)*(q.a2-k.y)):=((s1.mul s3).add (s2.mul s4)).m_
 have hm6:Rz 6000000 m:=hm.m_
 refine eo Tryz.func154 86 [.tmp 8,.tmp 9] rfl<|aa<|ag<|aa<|dC 20 [10,11,999999] ?_
 refine aK rfl (vV (aO (hp.a1)) (aO (hk.x))) ?_
 refine aq (aG (us:=(cR (p.a1-k.x)++cR p.b1)) LW I9 rfl rfl rfl) ?_
 refine aK rfl (vV (aO (hp.a2)) (aO (hk.y))) ?_
 refine aq (aG (us:=(cR (p.a2-k.y)++cR p.b2)) LW I9 rfl rfl rfl) ?_
 refine DQ.mk<|f5 (eh Mp rfl) rfl rfl rfl rfl<|dF ?_
 refine DQ.mk<|f5 (eh Mp rfl) rfl rfl rfl rfl<|dF ?_
 refine aa<|dC 20 [12,13,999999] ?_
 refine aK rfl (vV (aO (hq.a1)) (aO (hk.x))) ?_
 refine aq (aG (us:=(cR (q.a1-k.x)++cR q.b1)) LW I9 rfl rfl rfl) ?_
 refine aK rfl (vV (aO (hq.a2)) (aO (hk.y))) ?_
 refine aq (aG (us:=(cR (q.a2-k.y)++cR q.b2)) LW I9 rfl rfl rfl) ?_
 refine DQ.mk<|f5 (eh Mp rfl) rfl rfl rfl rfl<|dF ?_
 refine DQ.mk<|f5 (eh Mp rfl) rfl rfl rfl rfl<|dF ?_
 refine aa<|ag<|aa<|ag<|ac rfl (jJ (gT (by decide) (by decide)) (show((0:Int):Rat)=0 from rfl))<|aa<|bm<|bU 5<|aU (d5 (cR p.c) aZ rfl)<|bU 1<|aU (d5 (cR q.c) aZ rfl)<|aU (aG (us:=(cR 0++cR 0++cR 0++cR 0++cR p.c++cR q.c)) DA yR rfl rfl rfl) ?_
 refine rZ (jh yR rfl) rfl<|ed<|aa<|dC 10 [] ?_
 refine aK rfl (F1 (K8 (by first|assumption|(exact b4 (by assumption) (by decide))) (by first|assumption|(exact b4 (by assumption) (by decide))) (by first|assumption|(exact b4 (by assumption) (by decide))) (by first|assumption|(exact b4 (by assumption) (by decide))) (by first|assumption|(exact b4 (by assumption) (by decide))) (by first|assumption|(exact b4 (by assumption) (by decide))) (by first|assumption|(exact b4 (by assumption) (by decide))) (by first|assumption|(exact b4 (by assumption) (by decide))) (by decide) (by decide)) (vp _) (vp _) (vp _) (vp _)) ?_
 refine aK rfl (F1 (K8 (by first|assumption|(exact b4 (by assumption) (by decide))) (by first|assumption|(exact b4 (by assumption) (by decide))) (by first|assumption|(exact b4 (by assumption) (by decide))) (by first|assumption|(exact b4 (by assumption) (by decide))) (by first|assumption|(exact b4 (by assumption) (by decide))) (by first|assumption|(exact b4 (by assumption) (by decide))) (by first|assumption|(exact b4 (by assumption) (by decide))) (by first|assumption|(exact b4 (by assumption) (by decide))) (by decide) (by decide)) (Ge _ _) (Ge _ _) (Ge _ _) (Ge _ _)) ?_
 refine aa<|ag ?_
 refine ac rfl (vV (aO (gj (aP (cT (hp.a1) (hk.x)) (cT (hq.a1) (hk.x))) (aP (cT (hp.a2) (hk.y)) (cT (hq.a2) (hk.y))))) (G3)) ?_
 refine pu (aY (us:=(cR ((((p.a1-k.x)*(q.a1-k.x))+((p.a2-k.y)*(q.a2-k.y)))-m)++cR ((p.b1*(q.a1-k.x))+(p.b2*(q.a2-k.y)))++cR (((p.a1-k.x)*q.b1)+((p.a2-k.y)*q.b2))++cR ((p.b1*q.b1)+(p.b2*q.b2))++cR p.c++cR q.c)) aZ rfl rfl rfl rfl (fe rfl) rfl rfl) ?_
 refine aa<|dC 14 [] ?_
 refine aK rfl (F1 (K8 (by first|assumption|(exact b4 (by assumption) (by decide))) (by first|assumption|(exact b4 (by assumption) (by decide))) (by first|assumption|(exact b4 (by assumption) (by decide))) (by first|assumption|(exact b4 (by assumption) (by decide))) (by first|assumption|(exact b4 (by assumption) (by decide))) (by first|assumption|(exact b4 (by assumption) (by decide))) (by first|assumption|(exact b4 (by assumption) (by decide))) (by first|assumption|(exact b4 (by assumption) (by decide))) (by decide) (by decide)) (vp _) (vp _) (vp _) (vp _)) ?_
 refine aK rfl (F1 (K8 (by first|assumption|(exact b4 (by assumption) (by decide))) (by first|assumption|(exact b4 (by assumption) (by decide))) (by first|assumption|(exact b4 (by assumption) (by decide))) (by first|assumption|(exact b4 (by assumption) (by decide))) (by first|assumption|(exact b4 (by assumption) (by decide))) (by first|assumption|(exact b4 (by assumption) (by decide))) (by first|assumption|(exact b4 (by assumption) (by decide))) (by first|assumption|(exact b4 (by assumption) (by decide))) (by decide) (by decide)) (GY _ _) (GY _ _) (GY _ _) (GY _ _)) ?_
 refine aK rfl (cA (wE (c1.m_) (c2.m_) (c3.m_) (c4.m_) (hp.c.m_) (hq.c.m_)) (Dp _ _ _ _ _ _)) ?_
 refine aK rfl (cA (wE (d1.m_) (d2.m_) (d3.m_) (d4.m_) (hp.c.m_) (hq.c.m_)) (Dp _ _ _ _ _ _))<|a7 ?_
 exact ah (az (az ae))
theorem Ph (hk:GK k) (hp:GP p):Ok Tryz.prog 175 [.a (aj p),.a ((cR k.x++cR k.y))] [.a ((cR (p.a1-k.x)++cR p.b1++cR p.c)),.a ((cR (p.a2-k.y)++cR p.b2++cR p.c))]:=by
 refine bX Tryz.func175 rfl<|cJ 22 [4,5,999999] ?_
 refine aK rfl (RU (aO (hp.a1)) (aO (hk.x))) ?_
 refine aq (aG (us:=(cR (p.a1-k.x)++cR p.b1++cR p.c)) lU jL rfl rfl rfl) ?_
 refine aK rfl (RU (aO (hp.a2)) (aO (hk.y))) ?_
 refine aq (aG (us:=(cR (p.a2-k.y)++cR p.b2++cR p.c)) lU jL rfl rfl rfl) ?_
 refine DQ.mk<|iE (eh df rfl) rfl rfl rfl rfl<|dF ?_
 refine DQ.mk<|iE (eh df rfl) rfl rfl rfl rfl<|dF ?_
 exact ah (aS df rfl (aS df rfl ae))
theorem HD {a b c e f:Rat}(ha:Rz 400000 a) (hb:Rz 400000 b) (hd:Rz 400000 d) (he:Rz 400000 e):Ok Tryz.prog 177 [.a ((cR a++cR b++cR c)),.a ((cR d++cR e++cR f))] [.a ((cR (a*d)++cR (b*d)++cR (a*e)++cR (b*e)++cR c++cR f))]:=by
 refine eo Tryz.func177 30 [.cell 4 186] rfl<|aa<|ag<|aa<|lX 25 rfl rfl<|cn 1<|ba (d5 (cR a) aZ rfl)<|cn 1<|ba (d5 (cR d) aZ rfl)<|ba (cb rfl (GH (aO ha) (aO hd)))<|cn 1<|ba (d5 (cR b) aZ rfl)<|cn 1<|ba (d5 (cR d) aZ rfl) ?_
 refine ba (cb rfl (GH (aO hb) (aO hd)))<|cn 1<|ba (d5 (cR a) aZ rfl)<|cn 1<|ba (d5 (cR e) aZ rfl)<|ba (cb rfl (GH (aO ha) (aO he)))<|cn 1<|ba (d5 (cR b) aZ rfl)<|cn 1<|ba (d5 (cR e) aZ rfl)<|ba (cb rfl (GH (aO hb) (aO he)))<|cn 1<|ba (d5 (cR c) aZ rfl)<|cn 1 ?_
 refine ba (d5 (cR f) aZ rfl)<|ba (aG (us:=(cR (a*d)++cR (b*d)++cR (a*e)++cR (b*e)++cR c++cR f)) DA yR rfl rfl rfl) ?_
 refine ln<|dG<|ed<|a7 ?_
 exact ah (aS DJ rfl ae)
theorem Tn {E F G H O S:Rat}(hA:Rz 2000000 A) (hB:Rz 2000000 B) (hC:Rz 2000000 C) (hD:Rz 2000000 D) (hE:Rz 2000000 E) (hF:Rz 2000000 F) (hG:Rz 2000000 G) (hH:Rz 2000000 H):Ok Tryz.prog 176 [.a ((cR A++cR B++cR C++cR D++cR M++cR N)),.a ((cR E++cR F++cR G++cR H++cR O++cR S))] [.a ((cR (A+E)++cR (B+F)++cR (C+G)++cR (D+H)++cR M++cR N))]:=by
 refine eo Tryz.func176 30 [.cell 4 186] rfl<|aa<|ag<|aa<|lX 25 rfl rfl<|cn 1<|ba (d5 (cR A) aZ rfl)<|cn 1<|ba (d5 (cR E) aZ rfl)<|ba (cb rfl (Gg (aO hA) (aO hE)))<|cn 1<|ba (d5 (cR B) aZ rfl)<|cn 1<|ba (d5 (cR F) aZ rfl) ?_
 refine ba (cb rfl (Gg (aO hB) (aO hF)))<|cn 1<|ba (d5 (cR C) aZ rfl)<|cn 1<|ba (d5 (cR G) aZ rfl)<|ba (cb rfl (Gg (aO hC) (aO hG)))<|cn 1<|ba (d5 (cR D) aZ rfl)<|cn 1<|ba (d5 (cR H) aZ rfl)<|ba (cb rfl (Gg (aO hD) (aO hH)))<|cn 1<|ba (d5 (cR M) aZ rfl)<|cn 1 ?_
 refine ba (d5 (cR N) aZ rfl)<|ba (aG (us:=(cR (A+E)++cR (B+F)++cR (C+G)++cR (D+H)++cR M++cR N)) DA yR rfl rfl rfl) ?_
 refine ln<|dG<|ed<|a7 ?_
 exact ah (aS DJ rfl ae)
theorem Xk (hA:Rz 2000000 A) (hB:Rz 2000000 B) (hC:Rz 2000000 C) (hD:Rz 2000000 D):Ok Tryz.prog 178 [.a ((cR A++cR B++cR C++cR D++cR M++cR N))] [.a ((cR (-A)++cR (-B)++cR (-C)++cR (-D)++cR M++cR N))]:=by
 refine eo Tryz.func178 20 [.cell 2 186] rfl<|aa<|ag<|aa<|lX 17 rfl rfl<|cn 1<|ba (d5 (cR A) aZ rfl)<|ba (cb rfl (iy (aO hA)))<|cn 1<|ba (d5 (cR B) aZ rfl)<|ba (cb rfl (iy (aO hB)))<|cn 1<|ba (d5 (cR C) aZ rfl)<|ba (cb rfl (iy (aO hC))) ?_
 refine cn 1<|ba (d5 (cR D) aZ rfl)<|ba (cb rfl (iy (aO hD)))<|cn 1<|ba (d5 (cR M) aZ rfl)<|cn 1<|ba (d5 (cR N) aZ rfl)<|ba (aG (us:=(cR (-A)++cR (-B)++cR (-C)++cR (-D)++cR M++cR N)) DA yR rfl rfl rfl) ?_
 refine ln<|dG<|ed<|a7 ?_
 exact ah (aS DJ rfl ae)
theorem Pj (hk:GK k) (hp:GP p) (hq:GP q):Ok Tryz.prog 187 [.a ((cR k.x++cR k.y)),.a (aj p),.a (aj q)] [.c (.i .i64 (D8 k p q))]:=by
 obtain⟨s1,s2,s3,s4⟩:=IR hk hp hq
 obtain⟨c1,c2,c3,c4⟩:=Wf hk hp hq
 have t0:Rz 400000 (p.a1-k.x):=s1.m_
 have t1:Rz 400000 (p.a2-k.y):=s2.m_
 have t2:Rz 400000 (q.a1-k.x):=s3.m_
 have t3:Rz 400000 (q.a2-k.y):=s4.m_
 have t4:Rz 400000 (p.b1):=hp.b1.m_
 have t5:Rz 400000 (p.b2):=hp.b2.m_
 have t6:Rz 400000 (q.b1):=hq.b1.m_
 have t7:Rz 400000 (q.b2):=hq.b2.m_
 have u0:Rz 2000000 ((p.a1-k.x)*(q.a2-k.y)):=(s1.mul s4).m_
 have u1:Rz 2000000 (p.b1*(q.a2-k.y)):=(hp.b1.mul s4).m_
 have u2:Rz 2000000 ((p.a1-k.x)*q.b2):=(s1.mul hq.b2).m_
 have u3:Rz 2000000 (p.b1*q.b2):=(hp.b1.mul hq.b2).m_
 have u4:Rz 2000000 ((p.a2-k.y)*(q.a1-k.x)):=(s2.mul s3).m_
 have u5:Rz 2000000 (p.b2*(q.a1-k.x)):=(hp.b2.mul s3).m_
 have u6:Rz 2000000 ((p.a2-k.y)*q.b1):=(s2.mul hq.b1).m_
 have u7:Rz 2000000 (p.b2*q.b1):=(hp.b2.mul hq.b1).m_
 have w0:Rz 2000000 (-((p.a2-k.y)*(q.a1-k.x))):=l5 u4
 have w1:Rz 2000000 (-(p.b2*(q.a1-k.x))):=l5 u5
 have w2:Rz 2000000 (-((p.a2-k.y)*q.b1)):=l5 u6
 have w3:Rz 2000000 (-(p.b2*q.b1)):=l5 u7
 refine bX Tryz.func187 rfl ?_
 refine ac rfl (Ph hk hp) ?_
 refine ac rfl (Ph hk hq)<|cJ 10 [] ?_
 refine aK rfl (HD (by first|assumption|(exact b4 (by assumption) (by decide))) (by first|assumption|(exact b4 (by assumption) (by decide))) (by first|assumption|(exact b4 (by assumption) (by decide))) (by first|assumption|(exact b4 (by assumption) (by decide)))) ?_
 refine aK rfl (HD (by first|assumption|(exact b4 (by assumption) (by decide))) (by first|assumption|(exact b4 (by assumption) (by decide))) (by first|assumption|(exact b4 (by assumption) (by decide))) (by first|assumption|(exact b4 (by assumption) (by decide)))) ?_
 refine aK rfl (Xk (by assumption) (by assumption) (by assumption) (by assumption))<|aK rfl (Tn (by assumption) (by assumption) (by assumption) (by assumption) (by assumption) (by assumption) (by assumption) (by assumption))<|aK rfl (AY (c1.m_) (c2.m_) (c3.m_) (c4.m_) (hp.c.m_) (hq.c.m_)) ?_
 exact ah (az ae)
theorem acH:Ok Tryz.prog 89 [.a (aV k)] [.a ((cR k.x++cR k.y))]:=by
 refine bX Tryz.func89 rfl<|ar (aG (us:=(cR k.x++cR k.y)) HR Fu rfl rfl rfl) ?_
 exact ah (aS NF rfl ae)
theorem GA {a b c:Rat}(ha:Rz 400000 a) (hb:Rz 400000 b) (hc:Rz 400000 c) (hd:Rz 400000 d):Ok Tryz.prog 275 [dR a,dR b,dR c,dR d] [dR (a*b+c*d)]:=by
 refine bX Tryz.func275 rfl<|cJ 7 [] ?_
 refine aK rfl (co (aO ha) (aO hb)) ?_
 refine aK rfl (co (aO hc) (aO hd)) ?_
 refine aK rfl (cS (aO (aP ha hb)) (aO (aP hc hd))) ?_
 exact ah (aS aZ rfl ae)
theorem Y1 (hk:GK k) (hp:GP p) (hq:GP q) (hm:Rz 10 m):Ok Tryz.prog 158 [.a (([.b true]++nr++aV k++[.b w]++aj p++aj q)),dR m] [.a ((cR (Wc k p q m)++cR (WS k p q)++cR (W5 k p q)++cR (Ys p q)++cR p.c++cR q.c))]:=by
 obtain⟨s1,s2,s3,s4⟩:=IR hk hp hq
 obtain⟨d1,d2,d3,d4⟩:=QZ hk hp hq hm
 have t0:Rz 400000 (p.a1-k.x):=s1.m_
 have t1:Rz 400000 (p.a2-k.y):=s2.m_
 have t2:Rz 400000 (q.a1-k.x):=s3.m_
 have t3:Rz 400000 (q.a2-k.y):=s4.m_
 have t4:Rz 400000 (p.b1):=hp.b1.m_
 have t5:Rz 400000 (p.b2):=hp.b2.m_
 have t6:Rz 400000 (q.b1):=hq.b1.m_
 have t7:Rz 400000 (q.b2):=hq.b2.m_
 have dA0:Rz 6000000 ((p.a1-k.x)*(q.a1-k.x)+(p.a2-k.y)*(q.a2-k.y)):=((s1.mul s3).add (s2.mul s4)).m_
 have hm6:Rz 6000000 m:=hm.m_
 refine eo Tryz.func158 74 [.cell 4 186] rfl<|aa<|ag<|aa<|dC 8 [5,6,999999] ?_
 refine aq (cO (aj p) bq rfl (by kernel_rfl)) ?_
 refine aq (cO (aj q) bq rfl (by kernel_rfl)) ?_
 refine DQ.mk<|f5 (eh bq rfl) rfl rfl rfl rfl<|dF ?_
 refine DQ.mk<|f5 (eh bq rfl) rfl rfl rfl rfl<|dF ?_
 refine aa<|dC 14 [] ?_
 refine aq (cO (cR k.x) aZ rfl (by kernel_rfl)) ?_
 refine aK rfl (dM (aO (hp.a1)) (aO (hk.x))) ?_
 refine aq (cO (cR k.y) aZ rfl (by kernel_rfl)) ?_
 refine aK rfl (dM (aO (hp.a2)) (aO (hk.y)))<|aa<|dC 14 [] ?_
 refine aq (cO (cR k.x) aZ rfl (by kernel_rfl)) ?_
 refine aK rfl (dM (aO (hq.a1)) (aO (hk.x))) ?_
 refine aq (cO (cR k.y) aZ rfl (by kernel_rfl)) ?_
 refine aK rfl (dM (aO (hq.a2)) (aO (hk.y)))<|aa<|lX 35 rfl rfl ?_
 refine cn 4 ?_
 refine ba (cb rfl (GA (by first|assumption|(exact b4 (by assumption) (by decide))) (by first|assumption|(exact b4 (by assumption) (by decide))) (by first|assumption|(exact b4 (by assumption) (by decide))) (by first|assumption|(exact b4 (by assumption) (by decide))))) ?_
 refine cn 1<|ba (cb rfl (dM (aO (gj (aP (cT (hp.a1) (hk.x)) (cT (hq.a1) (hk.x))) (aP (cT (hp.a2) (hk.y)) (cT (hq.a2) (hk.y))))) (G3)))<|cn 1<|ba (d5 (cR p.b1) aZ rfl)<|cn 2<|ba (d5 (cR p.b2) aZ rfl)<|cn 1 ?_
 refine ba (cb rfl (GA (by first|assumption|(exact b4 (by assumption) (by decide))) (by first|assumption|(exact b4 (by assumption) (by decide))) (by first|assumption|(exact b4 (by assumption) (by decide))) (by first|assumption|(exact b4 (by assumption) (by decide))))) ?_
 refine cn 2<|ba (d5 (cR q.b1) aZ rfl)<|cn 2<|ba (d5 (cR q.b2) aZ rfl) ?_
 refine ba (cb rfl (GA (by first|assumption|(exact b4 (by assumption) (by decide))) (by first|assumption|(exact b4 (by assumption) (by decide))) (by first|assumption|(exact b4 (by assumption) (by decide))) (by first|assumption|(exact b4 (by assumption) (by decide))))) ?_
 refine cn 1<|ba (d5 (cR p.b1) aZ rfl)<|cn 1<|ba (d5 (cR q.b1) aZ rfl)<|cn 1<|ba (d5 (cR p.b2) aZ rfl)<|cn 1<|ba (d5 (cR q.b2) aZ rfl) ?_
 refine ba (cb rfl (GA (by first|assumption|(exact b4 (by assumption) (by decide))) (by first|assumption|(exact b4 (by assumption) (by decide))) (by first|assumption|(exact b4 (by assumption) (by decide))) (by first|assumption|(exact b4 (by assumption) (by decide))))) ?_
 refine cn 1<|ba (d5 (cR p.c) aZ rfl)<|cn 1<|ba (d5 (cR q.c) aZ rfl)<|ba (aG (us:=(cR (((p.a1-k.x)*(q.a1-k.x)+(p.a2-k.y)*(q.a2-k.y))-m)++cR (p.b1*(q.a1-k.x)+p.b2*(q.a2-k.y))++cR ((p.a1-k.x)*q.b1+(p.a2-k.y)*q.b2)++cR (p.b1*q.b1+p.b2*q.b2)++cR p.c++cR q.c)) DA yR rfl rfl rfl) ?_
 refine ln<|dG<|ed<|a7 ?_
 exact ah (aS DJ rfl ae)
theorem RL (hk:GK k) (hp:GP p) (hq:GP q):Ok Tryz.prog 156 [.a (([.b true]++nr++aV k++[.b w]++aj p++aj q))] [.c (.b (decide (xj w k p q≥0)))]:=by
 refine bX Tryz.func156 rfl<|cJ 9 [] ?_
 refine aq (cO (aV k) qK rfl (by kernel_rfl)) ?_
 refine aK rfl (acH) ?_
 refine aq (cO (aj p) bq rfl (by kernel_rfl)) ?_
 refine aq (cO (aj q) bq rfl (by kernel_rfl)) ?_
 refine aK rfl (Pj hk hp hq) ?_
 refine ar (gY lW rfl) ?_
 refine dk rfl (fun hc1=>?_) (fun hc1=>?_)
 ·refine ar (fa (r:= -D8 k p q) rfl (xv (Zk _ _ _)) rfl) ?_
  refine ah ?_
  rw[show xj w k p q= -D8 k p q from by unfold xj;rw[hc1];rfl]
  exact az ae
 ·refine ah ?_
  rw[show xj w k p q=D8 k p q from by unfold xj;rw[hc1];rfl]
  exact az ae
theorem Z2 (hk:GK k) (hp:GP p) (hq:GP q) (hx:Rz 3 x):Ok Tryz.prog 65 [.a (([.b true]++nr++aV k++[.b w]++aj p++aj q)),dR x] [.c (.i .i64 (BB w k p q x)),.c (.i .i64 (Ol w k p q x))]:=by
 have hm:Rz 10 (x*k.q):=(hx.mul hk.q).m_
 have x6:Rz 6000000 x:=hx.m_
 have q6:Rz 6000000 k.q:=hk.q.m_
 obtain⟨d1,d2,d3,d4⟩:=QZ hk hp hq hm
 refine bX Tryz.func65 rfl ?_
 refine ar (gY lW rfl) ?_
 refine ar (bE rfl) ?_
 refine ac rfl (EL (hx.m_)) ?_
 refine jU (bE rfl) (fun c1 hb1=>?_)
 cases c1
 ·have n1:lr x=true:=by simpa using hb1
  refine ar (gE bO rfl)<|ac rfl (RL hk hp hq) ?_
  refine dk rfl (fun hc2=>?_) (fun hc2=>?_)
  ·have n2:decide (xj w k p q≥0)=false:=by simpa using hc2
   refine ah ?_
   rw[(At n2:BB w k p q x=0∧_).1,(At n2:BB w k p q x=0∧_).2]
   exact az (az ae)
  ·have n2:decide (xj w k p q≥0)=true:=by simpa using hc2
   refine cJ 11 [] ?_
   refine aq (gE bO rfl) ?_
   refine aq (cO (cR k.q) aZ rfl (by kernel_rfl)) ?_
   refine aK rfl (co (aO hx) (aO (hk.q))) ?_
   refine aK rfl (Y1 hk hp hq hm) ?_
   refine aK rfl (AY (d1.m_) (d2.m_) (d3.m_) (d4.m_) (hp.c.m_) (hq.c.m_)) ?_
   refine aq (fa (r:= -GZ k p q (x*k.q)) rfl (xv (KA _ _ _ _)) rfl) ?_
   refine ah ?_
   rw[(Bc n1 n2).1,(Bc n1 n2).2]
   exact az (az ae)
 ·have n1:lr x=false:=by simpa using hb1
  refine sy rfl<|ah ?_
  rw[(Ak n1:BB w k p q x=0∧_).1,(Ak n1:BB w k p q x=0∧_).2]
  exact az (az ae)
theorem UC (_hl:GL l) (_hx:Rz 3 x):Ok Tryz.prog 65 [.a (([.b false]++iI l++rQ++[.b false]++aj p++aj q)),dR x] [.c (.i .i64 0),.c (.i .i64 1)]:=by
 refine bX Tryz.func65 rfl ?_
 refine ar (gY lW rfl) ?_
 refine ar (bE rfl) ?_
 refine ar (bE rfl) ?_
 refine sy rfl ?_
 exact ah (az (az ae))
theorem acm (_hl:GL l) (_hx:Rz 3 x):Ok Tryz.prog 64 [.a (([.b false]++iI l++rQ++[.b false]++aj p++aj q)),dR x] [.c (.i .i64 0),.c (.i .i64 1)]:=by
 refine bX Tryz.func64 rfl ?_
 refine ar (gY lW rfl) ?_
 refine ar (bE rfl) ?_
 refine sy rfl ?_
 exact ah (az (az ae))
theorem KO (hk:GK k) (hp:GP p) (hq:GP q) (hx:Rz 3 x):Ok Tryz.prog 64 [.a (([.b true]++nr++aV k++[.b true]++aj p++aj q)),dR x] [.c (.i .i64 (BB true k p q x)),.c (.i .i64 (Ol true k p q x))]:=by
 have hm:Rz 10 (x*k.q):=(hx.mul hk.q).m_
 have x6:Rz 6000000 x:=hx.m_
 have q6:Rz 6000000 k.q:=hk.q.m_
 have v1:=yY hp.v
 have v2:=yY hq.v
 have r1:D8 k q p=xj true k p q:=XA v1 v2
 have r2:GZ k q p (x*k.q)=GZ k p q (x*k.q):=XC v1 v2
 refine bX Tryz.func64 rfl ?_
 refine ar (gY lW rfl) ?_
 refine ar (bE rfl) ?_
 refine ac rfl (BQ (hx.m_)) ?_
 refine dk rfl (fun hc1=>?_) (fun hc1=>?_)
 ·have n1:lr x=false:=by simpa using hc1
  refine ah ?_
  rw[(Ak n1:BB true k p q x=0∧_).1,(Ak n1:BB true k p q x=0∧_).2]
  exact az (az ae)
 ·have n1:lr x=true:=by simpa using hc1
  refine cJ 8 [6,7,999999] ?_
  refine aq (cO (aj p) bq rfl (by kernel_rfl)) ?_
  refine aq (cO (aj q) bq rfl (by kernel_rfl)) ?_
  refine DQ.mk<|f5 (eh bq rfl) rfl rfl rfl rfl<|dF ?_
  refine DQ.mk<|f5 (eh bq rfl) rfl rfl rfl rfl<|dF ?_
  refine ar (gY lW rfl)<|sy rfl ?_
  refine cJ 15 [] ?_
  refine aq (cO (aV k) qK rfl (by kernel_rfl)) ?_
  refine aq (cO (cR k.q) aZ rfl (by kernel_rfl)) ?_
  refine aK rfl (nW (aO hx) (aO (hk.q))) ?_
  refine aK rfl (WY hk hq hp hm) ?_
  refine dk rfl (fun hc2=>?_) (fun hc2=>?_)
  ·have n2:decide (xj true k p q≥0)=false:=by have n3:=of_decide_eq_true hc2;exact decide_eq_false (by rw[←r1];show ¬(_:Int)≥0;omega)
   refine ah ?_
   rw[(At n2:BB true k p q x=0∧_).1,(At n2:BB true k p q x=0∧_).2]
   exact az (az ae)
  ·have n2:decide (xj true k p q≥0)=true:=by have n3:=of_decide_eq_false hc2;exact decide_eq_true (by rw[←r1];omega)
   refine ar (fa (r:= -GZ k q p (x*k.q)) rfl (xv (KA _ _ _ _)) rfl) ?_
   refine ah ?_
   rw[(Bc n1 n2).1,(Bc n1 n2).2,←r2]
   exact az (az ae)
theorem IQ (hk:GK k) (hp:GP p) (hq:GP q) (hx:Rz 3 x):Ok Tryz.prog 64 [.a (([.b true]++nr++aV k++[.b false]++aj p++aj q)),dR x] [.c (.i .i64 (BB false k p q x)),.c (.i .i64 (Ol false k p q x))]:=by
 have hm:Rz 10 (x*k.q):=(hx.mul hk.q).m_
 have x6:Rz 6000000 x:=hx.m_
 have q6:Rz 6000000 k.q:=hk.q.m_
 refine bX Tryz.func64 rfl ?_
 refine ar (gY lW rfl) ?_
 refine ar (bE rfl) ?_
 refine ac rfl (BQ (hx.m_)) ?_
 refine dk rfl (fun hc1=>?_) (fun hc1=>?_)
 ·have n1:lr x=false:=by simpa using hc1
  refine ah ?_
  rw[(Ak n1:BB false k p q x=0∧_).1,(Ak n1:BB false k p q x=0∧_).2]
  exact az (az ae)
 ·have n1:lr x=true:=by simpa using hc1
  refine cJ 8 [6,7,999999] ?_
  refine aq (cO (aj p) bq rfl (by kernel_rfl)) ?_
  refine aq (cO (aj q) bq rfl (by kernel_rfl)) ?_
  refine DQ.mk<|f5 (eh bq rfl) rfl rfl rfl rfl<|dF ?_
  refine DQ.mk<|f5 (eh bq rfl) rfl rfl rfl rfl<|dF ?_
  refine ar (gY lW rfl)<|sb rfl<|cJ 15 [] ?_
  refine aq (cO (aV k) qK rfl (by kernel_rfl)) ?_
  refine aq (cO (cR k.q) aZ rfl (by kernel_rfl)) ?_
  refine aK rfl (nW (aO hx) (aO (hk.q))) ?_
  refine aK rfl (WY hk hp hq hm) ?_
  refine dk rfl (fun hc2=>?_) (fun hc2=>?_)
  ·have n2:decide (xj false k p q≥0)=false:=by have n3:=of_decide_eq_true hc2;exact decide_eq_false (by show ¬D8 k p q≥0;show ¬(_:Int)≥0;omega)
   refine ah ?_
   rw[(At n2:BB false k p q x=0∧_).1,(At n2:BB false k p q x=0∧_).2]
   exact az (az ae)
  ·have n2:decide (xj false k p q≥0)=true:=by have n3:=of_decide_eq_false hc2;exact decide_eq_true (by show D8 k p q≥0;omega)
   refine ar (fa (r:= -GZ k p q (x*k.q)) rfl (xv (KA _ _ _ _)) rfl) ?_
   refine ah ?_
   rw[(Bc n1 n2).1,(Bc n1 n2).2]
   exact az (az ae)
theorem abl (hv:v.good) (hx:Rz 3 x):Ok Tryz.prog 64 [.a (aC v),dR x] [.c (.i .i64 (Gx v x)),.c (.i .i64 (Fp v x))]:=by
 cases v with
 |seg l p q=>exact acm hv.1 hx
 |arc k w p q=>
  cases w with
  |true=>exact KO hv.1 hv.2.1 hv.2.2 hx
  |false=>exact IQ hv.1 hv.2.1 hv.2.2 hx
theorem aaq (hv:v.good) (hx:Rz 3 x):Ok Tryz.prog 65 [.a (aC v),dR x] [.c (.i .i64 (Gx v x)),.c (.i .i64 (Fp v x))]:=by
 cases v with
 |seg l p q=>exact UC hv.1 hx
 |arc k w p q=>exact Z2 hv.1 hv.2.1 hv.2.2 hx
section
variable {k:Ci}{p q p' q':Pt}(hp:0≤p.c) (hq:0≤q.c) (m:Rat)
include hp hq
theorem Wn:D8 k p q=aT ((pX p-Re.of k.x)*(pY q-Re.of k.y)-(pY p-Re.of k.y)*(pX q-Re.of k.x)):=by
 unfold D8
 rw[nm hp hq]
 exact congrArg aT (br fun n=>by simp only[jH,aB,pX,pY,qm,XL,Zf,XZ,crD,aQ,aI,aR,bc];grind)
theorem Wa:GZ k p q m=aT ((pX p-Re.of k.x)*(pX q-Re.of k.x)+(pY p-Re.of k.y)*(pY q-Re.of k.y)-Re.of m):=by
 unfold GZ
 rw[nm hp hq]
 exact congrArg aT (br fun n=>by simp only[jH,aB,pX,pY,qm,Wc,WS,W5,Ys,aQ,aI,aR,bc];grind)
variable (hp':0≤p'.c) (hq':0≤q'.c) (h:cP p p'=0) (g:cP q q'=0)
include hp' hq' h g
theorem ZE:D8 k p q=D8 k p' q'∧GZ k p q m=GZ k p' q' m:=by
 obtain⟨h1,h2⟩:=eP.1 h
 obtain⟨g1,g2⟩:=eP.1 g
 rw[oc hp hp'] at h1
 rw[si hp hp'] at h2
 rw[oc hq hq'] at g1
 rw[si hq hq'] at g2
 rw[Wn hp hq,Wn hp' hq',Wa hp hq,Wa hp' hq']
 exact⟨wF (z:=(pY q-Re.of k.y)*(pX p-pX p')+(pX p'-Re.of k.x)*(pY q-pY q')-((pX q-Re.of k.x)*(pY p-pY p')+(pY p'-Re.of k.y)*(pX q-pX q'))) (br fun n=>by simp only[aQ,aI,aR,bc];grind) (WM (BA (te _ h1) (te _ g2)) (BA (te _ h2) (te _ g1))),
  wF (z:=(pX q-Re.of k.x)*(pX p-pX p')+(pX p'-Re.of k.x)*(pX q-pX q')+((pY q-Re.of k.y)*(pY p-pY p')+(pY p'-Re.of k.y)*(pY q-pY q'))) (br fun n=>by simp only[aQ,aI,aR,bc];grind) (BA (BA (te _ h1) (te _ g1)) (BA (te _ h2) (te _ g2)))⟩
end
theorem Um {c d:Cv}(vc:CvV c) (vd:CvV d) (h:eqC c d=true) (x:Rat):Gx c x=Gx d x∧Fp c x=Fp d x:=by
 unfold eqC at h
 simp only[dL,beq_iff_eq] at h
 obtain⟨h0,h1,h2,h3⟩:=h
 cases c with
 |seg l a b=>cases d with
  |seg=>exact⟨rfl,rfl⟩
  |arc=>exact absurd h0 Bool.false_ne_true
 |arc k w a b=>cases d with
  |seg=>exact absurd h0 Bool.false_ne_true
  |arc k' w' a' b'=>
   have e1:w=w':=h1
   have e2:k=k':=by
    have h0':(Ad k.x k'.x&&(Ad k.y k'.y&&Ad k.q k'.q))=true:=by simpa [Qc,pD,Bool.and_assoc] using h0
    simp only[dL] at h0'
    cases k;cases k'
    rw[Ci.mk.injEq]
    exact⟨PM h0'.1,PM h0'.2.1,PM h0'.2.2⟩
   subst e1 e2
   obtain⟨q1,q2⟩:=ZE (k:=k) (m:=x*k.q) (cm vc.g.2.1) (cm vc.g.2.2) (cm vd.g.2.1) (cm vd.g.2.2) h2 h3
   show BB w k a b x=BB w k a' b' x∧Ol w k a b x=Ol w k a' b' x
   have q1:D8 k a b=D8 k a' b':=q1
   have q2:GZ k a b (x*k.q)=GZ k a' b' (x*k.q):=q2
   unfold BB Ol FN xj
   rw[q1,q2]
   exact⟨rfl,rfl⟩
def ny (x:Rat) (c:Cv):Bool:=Fp c x !=0||decide (Gx c x>0)
def D6 (al:Bool) (x:Rat) (G:List Cv):Bool:= !(al|| !lr x)&&G.all fun c=> !ny x c
theorem EV {n:Nat}(hn:n<G.length) (h:ny x (G.getD n aX)=true):D6 al x G=false:=by
 unfold D6
 rw[show(G.all fun c=> !ny x c)=false from ?_,nj]
 rw[List.all_eq_false]
 exact⟨_,bd hn,by rw[h];decide⟩
theorem La (hc:lr x=true) (h: ∀i,i<G.length→ny x (G.getD i aX)=false):D6 false x G=true:=by
 unfold D6
 rw[hc,show(G.all fun c=> !ny x c)=true from ?_]
 ·rfl
 rw[kY]
 intro c hc
 obtain⟨i,hi,e⟩:=List.getElem_of_mem hc
 have:=h i hi
 rw[List.getD_eq_getElem?_getD,f9 hi,e] at this
 rw[show ny x c=false from this];rfl
theorem AK (h:(al|| !lr x)=true):D6 al x G=false:=by unfold D6;rw[h];rfl
theorem Ta (vG: ∀c∈G,CvV c) (vR: ∀c∈R,CvV c) (hl:G.length=R.length) (hE: ∀i,i<G.length→eqC (G.getD i aX) (R.getD i aX)=true):D6 al x G=D6 al x R:=by
 have hb: ∀i,i<G.length→ny x (G.getD i aX)=ny x (R.getD i aX):=fun i hi=>by
  obtain⟨q1,q2⟩:=Um (vG _ (bd hi)) (vR _ (bd (hl▸hi))) (hE i hi) x
  unfold ny
  rw[q1,q2]
 cases g:al|| !lr x with
 |true=>rw[AK g,AK g]
 |false=>
  have g1:al=false:=by cases al<;>simp_all
  have g2:lr x=true:=by cases h:lr x<;>simp_all
  subst g1
  by_cases k: ∃i,i<G.length∧ny x (G.getD i aX)=true
  ·obtain⟨i,hi,h⟩:=k
   rw[EV hi h,EV (hl▸hi) ((hb i hi)▸h)]
  ·have k': ∀i,i<G.length→ny x (G.getD i aX)=false:=fun i hi=>by
    cases h:ny x (G.getD i aX) with
    |false=>rfl
    |true=>exact absurd ⟨i,hi,h⟩ k
   rw[La g2 k',La g2 fun i hi=>(hb i (hl▸hi))▸k' i (hl▸hi)]
theorem WO (n0: -128≤n) (n1:n≤127):Ok Tryz.prog 16 [.c (.i .i8 n)] [dR (Rat.divInt n 16)]:=by
 refine bX Tryz.func16 rfl<|ar (bZ (r:=n) abP Ag rfl (pK (by omega) (by omega)) rfl) ?_
 refine ac rfl (Rj (by omega) (by omega) (by omega) (by omega) (by omega)) ?_
 exact ah (aS aZ rfl ae)
theorem adk (hx:Rz 3 x) (vG: ∀c∈G,CvV c) (lG:G.length≤100) (hP:Ok Tryz.prog 9 [.a (aV k),.c (.s L.length (ao aV L))] [.c (.s ((G).length) (ao aC (G))),.c (.b al)]):Ok Tryz.prog 15 [.a (aV k),.c (.s L.length (ao aV L)),dR x] [.c (.b (D6 al x G))]:=by
 refine bX Tryz.func15 rfl ?_
 refine ac rfl (hP) ?_
 refine jU (bE rfl) (fun c1 hb1=>?_)
 cases c1
 ·have n0:al=false:=hb1
  refine ac rfl (BQ (hx.m_)) ?_
  refine dk rfl (fun hc2=>?_) (fun hc2=>?_)
  ·have n1:lr x=false:=by simpa using hc2
   refine ah ?_
   rw[AK (show(al|| !lr x)=true from by rw[n1];simp)]
   exact az ae
  ·have n1:lr x=true:=by simpa using hc2
   refine DW.mk<|bn (ι:={n:Nat // n≤G.length∧ ∀i,i<n→ny x (G.getD i aX)=false}) (fun i=>⟨44,[(5,.p 5 0),(25,.v (.c (.s ((G).length) (ao aC (G))))),(26,.v (.c (.i .i64 (G.length:Int)))),(27,.v (.c (.i .i64 (i.1:Int))))],[(5,38,cR x)]⟩) (fun i=>G.length-i.1) ⟨0,eF _,fun i hi=>absurd hi (yc i)⟩ (ap ⟨rfl,rfl,rfl,rfl,trivial⟩ ⟨rfl,trivial⟩ rfl) ?_
   rintro⟨n,h2,h3⟩
   replace h2:n≤G.length:=h2
   replace h3: ∀i,i<n→ny x (G.getD i aX)=false:=h3
   dsimp only
   refine nu ?_
   refine dk rfl (fun hc3=>?_) (fun hc3=>?_)
   ·have g1:n<G.length:=by have:=of_decide_eq_true hc3;omega
    have vc:=vG _ (bd (d:=aX) g1)
    refine ar (fl aX ai g1 gP rfl)<|ar (iK ai bO rfl)<|pu (cZ bO rfl rfl rfl (ai _) rfl rfl) ?_
    refine ar (kV (ai _) bO rfl) ?_
    refine ac rfl (abl vc.g hx) ?_
    refine jU (bE rfl) (fun c4 hb4=>?_)
    cases c4
    ·have n2:(Fp (G.getD n aX) x !=0)=false:=hb4
     refine dk rfl (fun hc5=>?_) (fun hc5=>?_)
     ·have n3:decide (Gx (G.getD n aX) x>0)=true:=hc5
      refine ah ?_
      rw[EV g1 (show ny x (G.getD n aX)=true from by unfold ny;rw[n3];simp)]
      exact az ae
     ·have n3:decide (Gx (G.getD n aX) x>0)=false:=hc5
      have n4:ny x (G.getD n aX)=false:=by unfold ny;rw[n2,n3];rfl
      refine ar (ca (by omega) rfl) ?_
      exact⟨⟨n+1,g1,fun i hi=>(gO i n).elim (h3 i) fun q=>(show i=n by omega)▸n4⟩,ap ⟨rfl,rfl,rfl,rfl,trivial⟩ ⟨rfl,trivial⟩ rfl,by show G.length-(n+1)<G.length-n;omega⟩
    ·have n2:(Fp (G.getD n aX) x !=0)=true:=hb4
     refine sy rfl<|ah ?_
     rw[EV g1 (show ny x (G.getD n aX)=true from by unfold ny;rw[n2];rfl)]
     exact az ae
   ·have hp:n=G.length:=by have:=of_decide_eq_false hc3;omega
    refine ah ?_
    rw[n0,La n1 fun i hi=>h3 i (hp▸hi)]
    exact az ae
 ·refine sy rfl<|ah ?_
  rw[AK (show(al|| !lr x)=true from by rw[hb1];rfl)]
  exact az ae
theorem ac1 (hx:Rz 3 x) (vG: ∀c∈G,CvV c) (lG:G.length≤100) (hP:Ok Tryz.prog 12 [.a (aV k),.c (.s L.length (ao aV L))] [.c (.s ((G).length) (ao aC (G))),.c (.b al)]):Ok Tryz.prog 17 [.a (aV k),.c (.s L.length (ao aV L)),dR x] [.c (.b (D6 al x G))]:=by
 refine bX Tryz.func17 rfl ?_
 refine ac rfl (hP) ?_
 refine jU (bE rfl) (fun c1 hb1=>?_)
 cases c1
 ·have n0:al=false:=hb1
  refine ac rfl (EL (hx.m_)) ?_
  refine dk rfl (fun hc2=>?_) (fun hc2=>?_)
  ·have n1:lr x=false:=by simpa using hc2
   refine ah ?_
   rw[AK (show(al|| !lr x)=true from by rw[n1];simp)]
   exact az ae
  ·have n1:lr x=true:=by simpa using hc2
   refine DW.mk<|bn (ι:={n:Nat // n≤G.length∧ ∀i,i<n→ny x (G.getD i aX)=false}) (fun i=>⟨45,[(5,.p 5 0),(7,.v (.c (.s ((G).length) (ao aC (G))))),(9,.v (.c (.i .i64 (i.1:Int))))],[(5,38,cR x)]⟩) (fun i=>G.length-i.1) ⟨0,eF _,fun i hi=>absurd hi (yc i)⟩ (ap ⟨rfl,rfl,rfl,trivial⟩ ⟨rfl,trivial⟩ rfl) ?_
   rintro⟨n,h2,h3⟩
   replace h2:n≤G.length:=h2
   replace h3: ∀i,i<n→ny x (G.getD i aX)=false:=h3
   dsimp only
   refine nu ?_
   refine dk rfl (fun hc3=>?_) (fun hc3=>?_)
   ·have g1:n<G.length:=by have:=of_decide_eq_true hc3;omega
    have vc:=vG _ (bd (d:=aX) g1)
    refine cJ 11 []<|aq (fl aX ai g1 gP rfl)<|aq (iK ai bO rfl) ?_
    refine aK rfl (aaq vc.g hx) ?_
    refine jU (bE rfl) (fun c4 hb4=>?_)
    cases c4
    ·have n2:(Fp (G.getD n aX) x !=0)=false:=hb4
     refine dk rfl (fun hc5=>?_) (fun hc5=>?_)
     ·have n3:decide (Gx (G.getD n aX) x>0)=true:=hc5
      refine ah ?_
      rw[EV g1 (show ny x (G.getD n aX)=true from by unfold ny;rw[n3];simp)]
      exact az ae
     ·have n3:decide (Gx (G.getD n aX) x>0)=false:=hc5
      have n4:ny x (G.getD n aX)=false:=by unfold ny;rw[n2,n3];rfl
      refine ar (ca (by omega) rfl) ?_
      exact⟨⟨n+1,g1,fun i hi=>(gO i n).elim (h3 i) fun q=>(show i=n by omega)▸n4⟩,ap ⟨rfl,rfl,rfl,trivial⟩ ⟨rfl,trivial⟩ rfl,by show G.length-(n+1)<G.length-n;omega⟩
    ·have n2:(Fp (G.getD n aX) x !=0)=true:=hb4
     refine sy rfl<|ah ?_
     rw[EV g1 (show ny x (G.getD n aX)=true from by unfold ny;rw[n2];rfl)]
     exact az ae
   ·have hp:n=G.length:=by have:=of_decide_eq_false hc3;omega
    refine ah ?_
    rw[n0,La n1 fun i hi=>h3 i (hp▸hi)]
    exact az ae
 ·refine sy rfl<|ah ?_
  rw[AK (show(al|| !lr x)=true from by rw[hb1];rfl)]
  exact az ae
theorem Si (_hr:RnB r) (hW: ∀r∈W,RnB r) (hA:Ok Tryz.prog 7 [] [.c (.b true)]) (h4:decide (W.length≤4)=false):Ok Tryz.prog 4 [.a (([.i .i16 r.x]++[.i .i16 r.y]++[.i .u16 r.q]++[.i .u8 r.d])),.c (.s W.length (ao uR W)),.c (.i .i8 c)] [.c (.b true)]:=by
 refine bX Tryz.func4 rfl<|ac rfl (hA)<|sb rfl<|ac rfl ((by have h9:=aa9 hW;rw[h4] at h9;exact h9)) ?_
 refine sy rfl ?_
 exact ah (az ae)
theorem ZF (hr:RnB r) (hW: ∀r∈W,RnB r) (hA:Ok Tryz.prog 7 [] [.c (.b true)]) (c0: -128≤c) (c1:c≤127) (h4:decide (W.length≤4)=true) {v:Bool}(hP:Ok Tryz.prog 15 [.a (aV (Cb r)),.c (.s ((((W.take 4).map Cb)).length) (ao aV (((W.take 4).map Cb)))),dR (Rat.divInt c 16)] [.c (.b v)]) (hR:Ok Tryz.prog 17 [.a (aV (Cb r)),.c (.s ((((W.take 4).map Cb)).length) (ao aV (((W.take 4).map Cb)))),dR (Rat.divInt c 16)] [.c (.b v)]):Ok Tryz.prog 4 [.a (([.i .i16 r.x]++[.i .i16 r.y]++[.i .u16 r.q]++[.i .u8 r.d])),.c (.s W.length (ao uR W)),.c (.i .i8 c)] [.c (.b true)]:=by
 have lL4:((W.take 4).map Cb).length≤4:=by rw[oN,dH];omega
 refine eo Tryz.func4 32 [.tmp 6] rfl<|aa<|ag<|aa<|aa<|ag<|ac rfl (hA)<|bz rfl<|aA<|aa<|ag<|ac rfl ((by have h9:=aa9 hW;rw[h4] at h9;exact h9)) ?_
 refine aa<|aa<|ag<|bz rfl<|aA<|aa<|lX 15 rfl rfl<|cn 1<|ba (cb rfl (Td hr))<|cn 1<|ba (cb rfl (adQ lL4))<|cn 1<|ba (cb rfl (WO (by omega) (by omega)))<|ba (cb rfl (hP)) ?_
 refine cn 1<|ba (cb rfl (Td hr))<|cn 2<|ba (cb rfl (WO (by omega) (by omega)))<|ba (cb rfl (hR))<|ba (a8 (c:=true) (zF rfl rfl jM rfl) (beq_self_eq_true _)) ?_
 refine yW<|dG<|bt<|a7 ?_
 exact ah (az ae)
theorem Y6 (hr:RnB r) (hW: ∀r∈W,RnB r) (c0: -128≤c) (c1:c≤127) (hA:Ok Tryz.prog 7 [] [.c (.b true)]):Ok Tryz.prog 4 [.a (([.i .i16 r.x]++[.i .i16 r.y]++[.i .u16 r.q]++[.i .u8 r.d])),.c (.s W.length (ao uR W)),.c (.i .i8 c)] [.c (.b true)]:=by
 cases h4:decide (W.length≤4) with
 |false=>exact Si hr hW hA h4
 |true=>
  obtain⟨G,R,al,hP,hR,a1,a2,a3,a4,a5⟩:=Vo (Qg hr) (K9 hW).1 (K9 hW).2
  have hx:Rz 3 (Rat.divInt c 16):=(Rz.of (k:=1) (y6 (by omega) (by omega)) (y6 (by decide) (by decide)) (by decide)).mono (by decide)
  have vG: ∀c∈G,CvV c:=fun c hc=>(a3 c hc).1
  have q:=adk hx vG (by omega) hP
  rw[Ta vG a4 a1 a5] at q
  exact ZF hr hW hA c0 c1 h4 q (ac1 hx a4 (by omega) hR)
def ms:Ci:=⟨((4:Int):Rat),((0:Int):Rat),((3*3:Int):Rat)⟩
def sG:Ci:=⟨((0:Int):Rat),((0:Int):Rat),((5*5:Int):Rat)⟩
def rb (x y:Int):Pt:=rP (x:Rat) (y:Rat)
def wi:Cv:=.arc ms false (rb 4 (-3)) (rb 4 3)
theorem L9 {k:Nat}(h: -100≤n) (h':n≤100) (hk:1≤k):Rz k ((n:Int):Rat):=(eG (y6 (by omega) (by omega)) (by decide)).mono hk
theorem VH {P:Program}{f:FuncId}{ds rs:List D0}{x':Rat}(h:Ok P f ds (dR x::rs)) (e:x=x'):Ok P f ds (dR x'::rs):=by subst e;exact h
theorem BP:RK ms:=⟨by constructor<;>decide+kernel,by constructor<;>decide+kernel,by constructor<;>decide+kernel,by decide+kernel⟩
theorem Vq:RK sG:=⟨by constructor<;>decide+kernel,by constructor<;>decide+kernel,by constructor<;>decide+kernel,by decide+kernel⟩
def R7:Cv:=.arc ms false (rb 1 0) (rb 4 (-3))
def PV:Cv:=.arc ms false (rb 4 (-3)) (rb 7 0)
def Pn:Cv:=.arc ms false (rb 7 0) (rb 4 3)
def RN:Cv:=.arc ms false (rb 4 3) (rb 1 0)
theorem Vn:bj ms [sG]=[R7,PV,Pn,RN]:=by kernel_rfl
theorem Yh:R7.fwd=.arc ms false (rb 1 0) (rb 4 (-3)):=by kernel_rfl
theorem Yp:PV.fwd=.arc ms false (rb 4 (-3)) (rb 7 0):=by kernel_rfl
theorem XI:Pn.fwd=.arc ms true (rb 4 3) (rb 7 0):=by kernel_rfl
theorem Zw:RN.fwd=.arc ms true (rb 1 0) (rb 4 3):=by kernel_rfl
theorem Qj (h:DY k p=0):mr k p= -aM (G5 k p) 0:=by
 unfold mr
 rw[h,abw (by decide+kernel)]
theorem abN {s:Rat}(h1:1<x) (h7:x<7) (hs:s*s=1):mr sG (fV x 0 ms.y s (mK ms x))= -aM (8*x-32) 0:=by
 have k1:ms.x=4:=by decide+kernel
 have k2:ms.y=0:=by decide+kernel
 have k3:ms.q=9:=by decide+kernel
 have d1:sG.x=0:=by decide+kernel
 have d2:sG.y=0:=by decide+kernel
 have d3:sG.q=25:=by decide+kernel
 have e:mK ms x=9-(x-4)*(x-4):=by unfold mK;rw[k1,k3]
 have hc:0<mK ms x:=by
  rw[e,show 9-(x-4)*(x-4)=(x-1)*(7-x) from by grind]
  exact kw (by grind) (by grind)
 generalize mK ms x=c at*
 unfold fV
 split
 ·rename_i hq
  have h:=Kw hc hq
  rw[Qj (by unfold DY KE;rw[d1,d2];grind),show G5 sG ⟨x+0*rt c,0,ms.y+s*rt c,0,0⟩=8*x-32 from by unfold G5 Jv;rw[d1,d2,d3,k2];grind]
 ·rw[Qj (by unfold DY KE;rw[d1,d2,k2];grind),show G5 sG ⟨x,0,ms.y,s,c⟩=8*x-32 from by unfold G5 Jv;rw[d1,d2,d3,k2];grind]
theorem aa4 {f t:Pt}{m:Pt}(hm:m=xr (.arc ms w f t) x) (h1:1<x) (h7:x<7):qg [sG] m=decide (4<x):=by
 subst hm
 show(decide (mr sG (fV x 0 ms.y (sW w) (mK ms x))<0)&&true)=_
 rw[abN h1 h7 (by cases w<;>decide+kernel),Bool.and_true]
 refine decide_eq_decide.2 ?_
 unfold aM
 split
 ·exact⟨fun h=>absurd h (by decide),fun h=>by grind⟩
 ·split
  ·exact⟨fun _=>by grind,fun _=>by decide⟩
  ·exact⟨fun h=>absurd h (by decide),fun h=>by grind⟩
theorem aaT (h:mO (rb a b) x<0):((a:Int):Rat)<x:=by
 have h':aM ((a:Rat)-x) 0<0:=p8▸h
 unfold aM at h'
 (repeat' split at h')<;>grind
theorem abO (h:0<mO (rb a b) x):x<((a:Int):Rat):=by
 have h':0<aM ((a:Rat)-x) 0:=p8▸h
 unfold aM at h'
 (repeat' split at h')<;>grind
theorem Mb {c:Cv}{d e:Int}{m:Pt}(hf:c.fwd=.arc ms w (rb a b) (rb d e)) (ha:1≤((a:Int):Rat)) (hd:((d:Int):Rat)≤7) (hm: ∃x,m=xr c.fwd x∧mO c.fwd.p x<0∧0<mO c.fwd.q x):
 (((d:Int):Rat)≤4→qg [sG] m=false)∧(4≤((a:Int):Rat)→qg [sG] m=true):=by
 obtain⟨x,h1,h2,h3⟩:=hm
 rw[hf] at h1 h2 h3
 have a1:=aaT h2
 have b1:=abO h3
 rw[aa4 h1 (by grind) (by grind)]
 exact⟨fun h=>decide_eq_false (by grind),fun h=>decide_eq_true (by grind)⟩
theorem aau {m:Nat→Pt}(hm: ∀i,i<(bj ms [sG]).length→ ∃x,m i=xr ((bj ms [sG]).getD i aX).fwd x∧mO ((bj ms [sG]).getD i aX).fwd.p x<0∧0<mO ((bj ms [sG]).getD i aX).fwd.q x):
 Lk ms [sG] m=fun i=>i%4==1||i%4==2:=by
 rw[Vn] at hm
 have o: ∀i,i<4→qg [sG] (m i)=(i==1||i==2):=fun i hi=>by
  have:=hm i hi
  match i,hi with
  |0,_=>exact(Mb (c:=R7) Yh (by decide+kernel) (by decide+kernel) this).1 (by decide+kernel)
  |1,_=>exact(Mb (c:=PV) Yp (by decide+kernel) (by decide+kernel) this).2 (by decide+kernel)
  |2,_=>exact(Mb (c:=Pn) XI (by decide+kernel) (by decide+kernel) this).2 (by decide+kernel)
  |3,_=>exact(Mb (c:=RN) Zw (by decide+kernel) (by decide+kernel) this).1 (by decide+kernel)
 funext i
 unfold Lk
 rw[Vn]
 exact o (i%4) (r7 _ (by decide))
theorem YA:bp aX dh (m7 [R7,PV,Pn,RN] (fun i=>i%4==1||i%4==2) 0 [R7,PV,Pn,RN].length)=[wi]:=by kernel_rfl
theorem Dx:CvV wi:=
 ⟨⟨BP.k,Wb (L9 (by decide) (by decide) (by decide)) (L9 (by decide) (by decide) (by decide)),Wb (L9 (by decide) (by decide) (by decide)) (L9 (by decide) (by decide) (by decide))⟩,BP.pos,by decide+kernel,by decide+kernel,by decide+kernel⟩
theorem XU: ∀i:Int,0≤i→i<3+1→Wp 3 3 (i+1) ((-1:Int):Rat)=decide (i<2):=fun i h0 h1=>by
 have:i=0∨i=1∨i=2∨i=3:=by omega
 rcases this with rfl|rfl|rfl|rfl<;>decide+kernel
theorem Px (c:Cv) (r:List CellD):((aC c++r).drop 26).take 20=aj c.p:=by
 have hl:=ai c
 rw[xT (by omega),yy (by rw[fS];omega)]
 exact mY c
theorem VA:Ok Tryz.prog 9 [.a (aV ms),.c (.s 1 (aV sG))] [.c (.s [wi].length (ao aC [wi])),.c (.b false)]:=by
 have hL: ∀d∈ [sG],RK d:=fun d hd=>by rw[nD.1 hd];exact Vq
 obtain⟨m,hm⟩:=SH BP hL
 have e:=aau (m:=m) fun i hi=>(hm i hi).2.2.2
 rcases Mu BP hL (by decide) (fun i hi=>⟨(hm i hi).1,(hm i hi).2.1⟩) with⟨h,_⟩|⟨s,h1,h2,h3,h⟩
 ·exact absurd (h 0 (by rw[Vn];decide)) (by rw[e];decide)
 ·have h0:s=0:=(jn s).elim id fun q=>absurd (h2 0 q) (by rw[e];decide)
  subst h0
  rw[e,Vn,YA] at h
  exact h
theorem PJ {x y r:Int}(x0: -100≤x) (x1:x≤100) (y0: -100≤y) (y1:y≤100) (r0:0≤r) (r1:r≤100):Ok Tryz.prog 19 [.c (.i .i64 x),.c (.i .i64 y),.c (.i .i64 r)] [.a ((cR (((x:Int):Rat))++cR (((y:Int):Rat))++cR (((r*r:Int):Rat))))]:=by
 have r2:0≤r*r:=fZ r0 r0
 have r3:r*r≤100*100:=rm r1 r1 r0 (by decide)
 refine bX Tryz.func19 rfl<|ac rfl (eE (by omega) (by omega))<|ac rfl (eE (by omega) (by omega))<|ar (ci (r*r) ((congrArg some (pK (by omega) (by omega)))) rfl)<|ac rfl (eE (by omega) (by omega))<|ar (aG (us:=(cR (((x:Int):Rat))++cR (((y:Int):Rat))++cR (((r*r:Int):Rat)))) Y3 VE rfl rfl rfl) ?_
 exact ah (aS qK rfl ae)
theorem Kh:Ok Tryz.prog 7 [] [.c (.b true)]:=by
 refine eo Tryz.func7 92 [.tmp 0] rfl<|aa<|ag<|aa<|ag<|ac rfl (eE (by decide) (by decide))<|aa<|ag<|ac rfl (eE (by decide) (by decide))<|ac rfl (eE (by decide) (by decide))<|ac rfl (VH (x':=((0:Int):Rat)) (Rk (L9 (n:=3) (by decide) (by decide) (by decide)) (L9 (n:=3) (by decide) (by decide) (by decide)) (by decide+kernel)) (by decide+kernel))<|aa<|ag<|ac rfl (eE (by decide) (by decide)) ?_
 refine ac rfl (eE (by decide) (by decide))<|ac rfl (eE (by decide) (by decide))<|ac rfl (VH (x':=((0:Int):Rat)) (N0 (L9 (n:=5) (by decide) (by decide) (by decide)) (L9 (n:=3) (by decide) (by decide) (by decide)) (L9 (n:=4) (by decide) (by decide) (by decide)) (by decide+kernel)) (by decide+kernel))<|aa<|ag<|ac rfl (PJ (x:=4) (y:=0) (r:=3) (by decide) (by decide) (by decide) (by decide) (by decide) (by decide))<|ac rfl (PJ (x:=0) (y:=0) (r:=5) (by decide) (by decide) (by decide) (by decide) (by decide) (by decide))<|ar (bV (n:=1) (us:=(cR (((0:Int):Rat))++cR (((0:Int):Rat))++cR (((5*5:Int):Rat)))) Fr rfl rfl rfl (by decide) (by decide) rfl) ?_
 refine ac rfl (VA)<|aa<|ag<|ac rfl (eE (by decide) (by decide))<|ac rfl (Q7 (a:=3) (t:=3) (L9 (n:= -1) (by decide) (by decide) (by decide)) (by decide) (by decide) (by decide) (by decide) (by decide+kernel) (r:=2) (by decide) (by decide) XU)<|aa<|lX 57 rfl rfl<|cn 16<|ba (cb rfl (fp (EF (L9 (n:=0) (by decide) (by decide) (by decide)) (L9 (n:=0) (by decide) (by decide) (by decide))) (decide_eq_true rfl)))<|cn 4<|ba (cb rfl (fp (EF (L9 (n:=0) (by decide) (by decide) (by decide)) (L9 (n:=0) (by decide) (by decide) (by decide))) (decide_eq_true rfl)))<|cn 8<|ba (a8 (c:=true) (fh rfl) rfl) ?_
 refine cn 3<|ba (bI (us:=aC ([wi].getD 0 aX)++ao aC ([wi].drop (0+1))) gP rfl rfl (⟨by decide,by decide⟩) (am ai _) (iY ai (eB (show 0<[wi].length from by decide))) rfl) ?_
 refine ba (iK ai bO rfl)<|ba (cb rfl (acO Dx))<|cn 3<|ba (bI (us:=aC ([wi].getD 0 aX)++ao aC ([wi].drop (0+1))) gP rfl rfl (⟨by decide,by decide⟩) (am ai _) (iY ai (eB (show 0<[wi].length from by decide))) rfl) ?_
 refine ba (qp J8 rfl rfl rfl) ?_
 refine ba (ck (us:=aj wi.p) bq rfl (Px _ _) (ak _) rfl) ?_
 refine ba (cb rfl (Jk (by decide) (by decide) (by decide) (by decide)))<|ba (cb rfl ((show Ok _ _ _ [.a (aj wi.p)] from BL)))<|ba (cb rfl (fp (c:=true) (Hj Dx.g.2.1 Dx.g.2.1) (by decide+kernel)))<|cn 3<|ba (bI (us:=aC ([wi].getD 0 aX)++ao aC ([wi].drop (0+1))) gP rfl rfl (⟨by decide,by decide⟩) (am ai _) (iY ai (eB (show 0<[wi].length from by decide))) rfl) ?_
 refine ba (qp AD rfl rfl rfl) ?_
 refine ba (ck (us:=aj wi.q) bq rfl (yK _ _) (ak _) rfl) ?_
 refine ba (cb rfl (Jk (by decide) (by decide) (by decide) (by decide)))<|ba (cb rfl ((show Ok _ _ _ [.a (aj wi.q)] from BL)))<|ba (cb rfl (fp (c:=true) (Hj Dx.g.2.2 Dx.g.2.2) (by decide+kernel)))<|yW<|dG<|bt<|a7 ?_
 exact ah (az ae)
end Go.Proofs.YtegpmhlfjkhjmaaGreat
namespace Go.Proofs.YtegpmhlfjkhjmaaGreat
open Go.ChangeShapes Go.WideShapes Go.ChangeAt Go.RowKit Go.Deep
variable {fuel m:Nat}
theorem Co {α:Type}{m:Nat}: ∀(L:List (List α)),(∀x∈L,x.length=m)→L.flatten.length=L.length*m
 |[],_=>by simp
 |y::L,h=>by
  rw[vm,dt,Co L (fun x hx=>h x (fC _ hx)),h y (fO ..),ui,oh];omega
theorem LH {α:Type}{m:Nat}: ∀(L:List (List α)) (i q:Nat) (x:List α),(∀x∈L,x.length=m)→L[i]? =some x→q<m→L.flatten[i*m+q]? =x[q]?
 |[],i,q,x,_,h,_=>by simp at h
 |y::L,0,q,x,hm,h,hq=>by
  simp at h
  subst h
  rw[vm,C4 (by rw[hm y (fO ..)];omega)]
  congr 1;omega
 |y::L,i+1,q,x,hm,h,hq=>by
  rw[vm,Dd (by rw[hm y (fO ..),oh];omega),hm y (fO ..),show(i+1)*m+q-m=i*m+q from by rw[oh];omega]
  exact LH L i q x (fun x hx=>hm x (fC _ hx)) (by simpa using h) hq
theorem ID {α:Type}{m:Nat}: ∀(L:List (List α)) (i:Nat) (x:List α),(∀x∈L,x.length=m)→L[i]? =some x→(L.flatten.drop (i*m)).take m=x
 |[],i,x,_,h=>by simp at h
 |y::L,0,x,hm,h=>by
  simp at h
  subst h
  rw[Nat.zero_mul,o7,vm,←hm y (fO ..)]
  simp
 |y::L,i+1,x,hm,h=>by
  rw[vm,oh,Nat.add_comm,←x7,Nat.one_mul]
  have:(y++L.flatten).drop m=L.flatten:=by rw[←hm y (fO ..)];simp
  rw[this]
  exact ID L i x (fun x hx=>hm x (fC _ hx)) (by simpa using h)
section
variable {H:Type}{enc:TypeId×Value→H}{P:Program}{w:World}{base:Nat}{spare:Nat→Bool}{held:Bool}
theorem MY {V:Nat→Prop}: ∀(L:List (List Value×List CellD)),(∀p∈L,RdCs V w p.1 p.2)→RdCs V w (L.map (·.1)).flatten (L.map (·.2)).flatten
 |[],_=>uN
 |p::L,h=>by
  rw[oJ,oJ,vm,vm]
  exact(h p (fO ..)).append (MY L fun q hq=>h q (fC _ hq))
theorem Jx {t e:TypeId}(ht:P.underlying t=some (.slice e)) (hc:P.cellsOf e=m) (hm:0<m) {Q:List CellD→Prop}
 (hel: ∀fuel cs x,DataW.trod enc P w base spare held fuel e cs=some x→ ∃us,us.length=m∧Q us∧RdCs SV w cs us) {fuel:Nat}{v:Value}{x:DataW H×List MemPlace}(h:DataW.trod enc P w base spare held fuel t [v]=some x):
 ∃(n:Nat) (us:List CellD),us.length=n*m∧n≤maxLen∧(∀j,j<n→Q ((us.drop (j*m)).take m))∧RdC SV w v (.s n us):=by
 rcases open_slice ht h with⟨hcs,_⟩|⟨a,len,cap,k,n,D,Pl,hcs,_,hl,hk,hkk,_,hi⟩
 ·simp at hcs;subst hcs
  exact⟨0,[],by simp,by decide,fun j hj=>by omega,.s0 none 0 (by omega)⟩
 ·simp at hcs;subst hcs
  rw[hc] at hi
  obtain⟨l,hll,hp⟩:=I8 (p:=fun j (z:List Value×List CellD)=>z.1.length=m∧z.2.length=m∧Q z.2∧RdCs SV w z.1 z.2∧ ∀i,i<m→w.cell? (a.add (j*m+i))=z.1[i]?) len (fun j hj=>by
   obtain⟨cs',h1,h2⟩:=hi j (by rw[hkk];split<;>omega)
   obtain⟨us,e1,e2,e3⟩:=hel _ _ _ h2
   obtain⟨_,hlen,hcell⟩:=World.cells?_some h1
   exact⟨(cs',us),hlen,e1,e2,e3,fun i hi=>by rw[←hcell i hi,add_add]⟩)
  have hmem: ∀z∈l,z.1.length=m∧z.2.length=m∧RdCs SV w z.1 z.2:=fun z hz=>by
   obtain⟨i,hi⟩:=List.getElem?_of_mem hz
   exact⟨(hp i z hi).1,(hp i z hi).2.1,(hp i z hi).2.2.2.1⟩
  have m1: ∀x∈l.map (·.1),x.length=m:=fun x hx=>by obtain⟨z,hz,rfl⟩:=nB.1 hx;exact(hmem z hz).1
  have m2: ∀x∈l.map (·.2),x.length=m:=fun x hx=>by obtain⟨z,hz,rfl⟩:=nB.1 hx;exact(hmem z hz).2.1
  have hrd:=MY (w:=w) (V:=SV) l (fun p hp=>(hmem p hp).2.2)
  have hvl:(l.map (·.1)).flatten.length=len*m:=by rw[Co _ m1,oN,hll]
  have hul:(l.map (·.2)).flatten.length=len*m:=by rw[Co _ m2,oN,hll]
  refine⟨len,(l.map (·.2)).flatten,hul,by omega,fun j hj=>?_,?_⟩
  ·have hj2:l[j]? =some l[j]:=f9 (by omega)
   rw[ID _ j l[j].2 m2 (by rw[sM,hj2];rfl)]
   exact(hp j _ hj2).2.2.1
  ·unfold maxLen at hk
   by_cases h0:len=0
   ·subst h0
    have:l=[]:=jQ.1 hll
    subst this
    exact .s0 _ _ (by omega)
   ·have hcell: ∀j,j<len*m→ ∃v,(l.map (·.1)).flatten[j]? =some v∧w.cell? (a.add j)=some v:=by
     intro j hj
     have hd:j/m<len:=Nat.div_lt_of_lt_mul (by rw[Nat.mul_comm];exact hj)
     have hq:j%m<m:=r7 _ hm
     have e:j=j/m*m+j%m:=by rw[Nat.mul_comm];exact(Nat.div_add_mod j m).symm
     have hj2:l[j/m]? =some l[j/m]:=f9 (by omega)
     have h1:=LH (l.map (·.1)) (j/m) (j%m) l[j/m].1 m1 (by rw[sM,hj2];rfl) hq
     have h2:=(hp _ _ hj2).2.2.2.2 (j%m) hq
     rw[←e] at h1 h2
     refine⟨_,f9 (by omega),?_⟩
     rw[h2,←h1,f9 (by omega)]
    obtain⟨v0,_,h00⟩:=hcell 0 (Nat.mul_pos (by omega) hm)
    have ea:=QM a _ h00
    rw[ea]
    refine .s a.block a.off cap m len _ (fun j=>(l.map (·.1)).flatten.getD j undef) (by omega) hl (by omega) hul (X3 _ _ _ (by have:=Mo a 0 _ h00;simpa using this)) (fun h=>h) (fun j hj=>?_) (fun j u hu=>?_)
    ·obtain⟨v,e1,e2⟩:=hcell j hj
     rw[Mo a j _ e2]
     simp[List.getD,e1]
    ·have hj:j<len*m:=by rw[←hul];exact(jf.1 hu).1
     obtain⟨v,e1,e2⟩:=hcell j hj
     simp only[List.getD,e1,Option.getD_some]
     exact hrd.2 j v u e1 hu
end
theorem WK {φ:Nat→Rn}: ∀(n:Nat) (us:List CellD),us.length=n*4→(∀j,j<n→(us.drop (j*4)).take 4=uR (φ j))→us=ao uR ((List.range n).map φ)
 |0,us,hl,_=>jQ.1 (by omega)
 |n+1,us,hl,h=>by
  have h1:=WK n (us.take (n*4)) (by rw[dH];omega) fun j hj=>by
   rw[←h j (by omega),List.drop_take,List.take_take]
   congr 1;omega
  rw[List.range_succ,oZ,dB,←h1]
  show us=us.take (n*4)++ao uR [φ n]
  rw[dW,←h n (by omega),show(us.drop (n*4)).take 4=us.drop (n*4) from jm (by rw[fS];omega)]
  exact(xQ _ _).symm
section
variable {H:Type}{enc:TypeId×Value→H}{w:World}{base:Nat}{spare:Nat→Bool}{held:Bool}
set_option maxRecDepth 100000 in
theorem Je {cs:List Value}{x:DataW H×List MemPlace}(h:DataW.trod enc Tryz.prog w base spare held fuel 25 cs=some x):
 ∃r:Rn,RnB r∧RdCs SV w cs (uR r):=by
 obtain⟨xs,n,_,_,hcl,hxl,hf⟩:=DataW.trod_struct (P:=Tryz.prog) Tryz.underlying25 h
 have hcl:cs.length=4:=hcl.trans (by kernel_rfl)
 have hxl:xs.length=4:=hxl.trans (by kernel_rfl)
 match cs,hcl with
 |[c0,c1,c2,c3],_=>
  have h0:DataW.trod enc Tryz.prog w base spare held n 22 [c0]=xs[0]? :=hf 0 _ rfl
  have h1:DataW.trod enc Tryz.prog w base spare held n 22 [c1]=xs[1]? :=hf 1 _ rfl
  have h2:DataW.trod enc Tryz.prog w base spare held n 23 [c2]=xs[2]? :=hf 2 _ rfl
  have h3:DataW.trod enc Tryz.prog w base spare held n 5 [c3]=xs[3]? :=hf 3 _ rfl
  rw[f9 (by omega)] at h0 h1 h2 h3
  obtain⟨A,e0,_,g0⟩:=DataW.trod_int (P:=Tryz.prog) Tryz.underlying22 h0
  obtain⟨B,e1,_,g1⟩:=DataW.trod_int (P:=Tryz.prog) Tryz.underlying22 h1
  obtain⟨C,e2,_,g2⟩:=DataW.trod_int (P:=Tryz.prog) Tryz.underlying23 h2
  obtain⟨D,e3,_,g3⟩:=DataW.trod_int (P:=Tryz.prog) Tryz.underlying5 h3
  simp at e0 e1 e2 e3
  subst e0 e1 e2 e3
  simp[Lit.wf,IntKind.min,IntKind.max,IntKind.signed,IntKind.bits] at g0 g1 g2 g3
  have k: ∀(t:IntKind) (q:Int),RdCs SV w [Value.int t q] [.i t q]:=fun t q=>uJ (.i _ _) uN
  have q:(-32768≤A∧A≤32767)∧(-32768≤B∧B≤32767)∧(0≤C∧C≤65535)∧0≤D∧D≤255:=by omega
  exact⟨⟨A,B,C,D⟩,⟨q.1.1,q.1.2,q.2.1.1,q.2.1.2,q.2.2.1.1,q.2.2.1.2,q.2.2.2.1,q.2.2.2.2⟩,qW (qW (qW (k _ A) (k _ B)) (k _ C)) (k _ D)⟩
theorem N1 {v:Value}{x:DataW H×List MemPlace}(h:DataW.trod enc Tryz.prog w base spare held fuel 26 [v]=some x):
 ∃W:List Rn,(∀r∈W,RnB r)∧RdC SV w v (.s W.length (ao uR W)):=by
 obtain⟨n,us,h1,_,h3,h4⟩:=Jx (P:=Tryz.prog) (m:=4) (Q:=fun us=> ∃r:Rn,RnB r∧us=uR r) Tryz.underlying26 (by kernel_rfl) (by decide) (fun fuel cs x h=>by
  obtain⟨r,w1,hr⟩:=Je h
  have hl:cs.length=4:=by
   obtain⟨xs,n,_,_,hcl,hxl,hf⟩:=DataW.trod_struct (P:=Tryz.prog) Tryz.underlying25 h
   exact hcl.trans (by kernel_rfl)
  exact⟨_,hr.1.symm.trans hl,⟨r,w1,rfl⟩,hr⟩) h
 have key: ∀j,∃r:Rn,j<n→RnB r∧(us.drop (j*4)).take 4=uR r:=fun j=>by
  by_cases hj:j<n
  ·obtain⟨r,w1,e⟩:=h3 j hj
   exact⟨r,fun _=>⟨w1,e⟩⟩
  ·exact⟨Jo,fun q=>absurd q hj⟩
 obtain⟨φ,hφ⟩:=Classical.axiomOfChoice key
 have e:=WK (φ:=φ) n us h1 fun j hj=>(hφ j hj).2
 refine⟨(List.range n).map φ,fun r hr=>?_,?_⟩
 ·obtain⟨j,hj,rfl⟩:=nB.1 hr
  exact(hφ j (lZ.1 hj)).1
 ·rw[←e,oN,List.length_range];exact h4
end
end Go.Proofs.YtegpmhlfjkhjmaaGreat
namespace Go.Proofs.YtegpmhlfjkhjmaaGreat
open Go.ChangeShapes Go.WideShapes Go.ChangeAt Go.RowKit
theorem Fy {r:Rn}(b:RnB r) {W:List Rn}(bw: ∀r∈W,RnB r) {c:Int}(c0: -128≤c) (c1:c≤127):Ok Tryz.prog 4 [.a (uR r),.c (.s W.length (ao uR W)),.c (.i .i8 c)] [.c (.b true)]:=Y6 b bw c0 c1 Kh
set_option maxRecDepth 100000 in
theorem BJ (os:Os) (started:os.Started) (H:Type) (enc:TypeId×Value→H):
 ReturnsInHanded {} Tryz.checked os 4 .any (Rows.engagementAtMostSpec.pre6 enc Tryz.prog Tryz.f4 Rows.engagementAtMostRow.domain false) (Rows.engagementAtMostSpec.post enc Tryz.prog Tryz.f4 false true false false):=by
 refine returnsInHanded_of_change (C:=Tryz.checked) own started (by kernel_rfl) Tryz.func4
  (ChangeSpec.witness6 (enc:=enc) (C:=Tryz.checked) false ⟨#[],#[.agg #[.int .i16 0,.int .i16 0,.int .u16 0,.int .u8 0],.slice none 0 0,.int .i8 0],[]⟩ 8 (by kernel_rfl) (by kernel_rfl) (by kernel_rfl) (by kernel_rfl)) ?_
 intro W base args ds gs before hval0 hW hcnd _
 have hval: ∀(j:Nat) t v,Tryz.f4.params[j]? =some t→args[j]? =some v→Value.okWide Tryz.prog W .any base t v:=hval0
 have hW':=hW
 obtain⟨p,q,hA0,hV,rfl,hfz,hnd⟩:=hW
 have hA:DataW.TrodAll enc Tryz.prog W 0 (fun _=>true) true Tryz.f4.params.toList args.toList ds p:=hA0
 rw[Tryz.params4] at hA hval
 obtain⟨v0,vs0,d0,ds0,p0,q0,hargs,rfl,rfl,h0,r0⟩:=trodAll_cons hA
 obtain⟨v1,vs1,d1,ds1,p1,q1,rfl,rfl,rfl,h1,r1⟩:=trodAll_cons r0
 obtain⟨v2,vs2,d2,ds2,p2,q2,rfl,rfl,rfl,h2,r2⟩:=trodAll_cons r1
 obtain⟨rfl,rfl,rfl⟩:=trodAll_nil r2
 obtain rfl:args= #[v0,v1,v2]:=by cases args;simp_all
 obtain⟨rfl,rfl⟩:=trodVars_none hV
 obtain⟨a0,rfl,_⟩:=okWide_struct Tryz.underlying25 (hval 0 25 v0 rfl rfl)
 have k0:=h0
 have lt0: ∀x∈p0,x.block<W.heap.size:=by obtain⟨m,hm⟩:=k0;exact DataW.trod_lt m _ _ _ hm
 obtain⟨A1,len1,cap1,rfl⟩:=okWide_slice Tryz.underlying26 (hval 1 26 v1 rfl rfl)
 have k1:=h1
 have lt1: ∀x∈p1,x.block<W.heap.size:=by obtain⟨m,hm⟩:=k1;exact DataW.trod_lt m _ _ _ hm
 obtain⟨a2,rfl,rfl,rfl,w2⟩:=open_int Tryz.underlying52 (hval 2 52 v2 rfl rfl) h2
 obtain⟨s0,b0,hr0⟩:=Je (show DataW.trod enc Tryz.prog W 0 _ _ h0.choose 25 a0.toList=some _ from h0.choose_spec)
 obtain⟨L1,b1,hr1⟩:=N1 (show DataW.trod enc Tryz.prog W 0 _ _ h1.choose 26 [_]=some _ from h1.choose_spec)
 have g2: -128≤a2∧a2≤127:=by have:=w2;simp[Lit.wf,IntKind.min,IntKind.max,IntKind.signed,IntKind.bits] at this;omega
 clear hA0 hval0
 refine(Xr (Fy b0 b1 g2.1 g2.2) (s9 ⟨a0,rfl,hr0⟩ (s9 hr1 (s9 (.i _ _) RdL.nil)))).mono fun e W' ⟨he,bel⟩=>?_
 subst he
 exact⟨_,rfl,_,_,_,[],_,[],hW',trodAll_mk1 (shut_bool Tryz.underlying4 _),(trodAll_cons_mk (Below.trod Mh (by kernel_rfl) (of_decide_eq_true (by kernel_rfl)) k0 bel lt0) (trodAll_cons_mk (Below.trod Mh (by kernel_rfl) (of_decide_eq_true (by kernel_rfl)) k1 bel lt1) (trodAll_cons_mk (shut_int Tryz.underlying52 w2) trodAll_mk0))),rfl,bel.frame _,fun h=>by cases h⟩
theorem atmost32_proved:Rows.EngagementAtMostSaid:=
 OpenClaim.holds_of_wide 4 Tryz.f4 rfl rfl rfl rfl rfl rfl rfl ⟨rfl,rfl,rfl,rfl,rfl⟩ rfl rfl rfl rfl rfl IM Tryz.func4 IY
  (of_decide_eq_true (by kernel_rfl)) (by unfold Func.isWrapper;first|(rw[if_pos (by decide+kernel)];kernel_rfl)|(rw[if_neg (by decide+kernel)];exact⟨rfl,rfl⟩))
  (fun os started H enc _=>BJ os started H enc)
end Go.Proofs.YtegpmhlfjkhjmaaGreat
