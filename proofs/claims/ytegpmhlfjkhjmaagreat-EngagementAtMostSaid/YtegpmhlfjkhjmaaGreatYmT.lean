/-The reference:a turn of the search. -/
import Derived.Test.YtegpmhlfjkhjmaaGreatYmS
namespace Go.Proofs.YtegpmhlfjkhjmaaGreat
open Go Go.RowKit
variable {k:Ci}{P P2 Q Q2 c c0 d d0 m m2 n n1 na nb:Int}{L L':List Pt}{i j:Nat}{f p t:Pt}{A B C D E F w1 w2 x y z:Rat}{a b:Re}
theorem vf:type_of% @Tryz.func269:=@Tryz.func269
theorem Za (L:Lv A B C D E F n) (e0:bF (A-0) B C=c0) (g0:decide (c0<0)=false) (g1:decide (c0≥0)=true) (oA:Ok Tryz.prog 337 [.a ((cR A++cR B++cR C))] [dR (n:Rat)]) (hc:bF (D-((n:Rat)+1)) E F=c) (hg:decide (c>0)=true):Ok Tryz.prog 269 [.a ((cR A++cR B++cR C)),.a ((cR D++cR E++cR F))] [dR ((n:Rat)+1)]:=by
 have o1:Rz 6000000 (1:Rat):=pe (by decide+kernel)
 have s1:Sz 19980000 (1:Int):=dS (by decide) (by decide) (by decide)
 have kn:Rz 6000000 (n:Rat):=L.zn.m_
 have sn:Sz 19980000 n:=L.nz.m_
 have kA:Rz 6000000 A:=L.kA.m_
 have kD:Rz 6000000 D:=L.kD.m_
 have z0:Rz 2 (0:Rat):=dJ (by decide)
 have h0:Rz 6000000 (0:Rat):=dJ (by decide)
 refine eo vf 81 [.cell 4 38] rfl<|aa<|ag<|aa<|ag<|ac rfl ((show Ok Tryz.prog 18 [.c (.i .i64 1)] [dR 1] from d8 (by omega) (by omega)))<|ac rfl ((show Ok Tryz.prog 18 [.c (.i .i64 0)] [dR 0] from d8 (by omega) (by omega)))<|aa<|aa<|bm<|bU 2<|aU (cb rfl (cA (b6 kA h0 ((L.hA.sub z0).m_) (L.kB.m_) (L.kC.m_)) e0))<|aU (a8 (fh rfl) g0) ?_
 refine ed<|bz rfl<|aA<|aa<|ag ?_
 refine ac rfl (oA)<|aa<|ag ?_
 refine ac rfl (cS kn o1)<|aa<|aa<|bm<|bU 2 ?_
 refine aU (cb rfl (cA (b6 kD (L.zn1.m_) (L.dn1.m_) (L.kE.m_) (L.kF.m_)) hc)) ?_
 refine aU (a8 (fh rfl) hg) ?_
 refine bt<|dO rfl<|aa<|aa<|bm<|bU 2<|aU (cb rfl (cA (b6 kA h0 ((L.hA.sub z0).m_) (L.kB.m_) (L.kC.m_)) e0))<|aU (a8 (fh rfl) g1) ?_
 refine bt<|dO rfl<|aa<|ag ?_
 refine a7 ?_
 exact ah (aS aZ rfl ae)
theorem YR (L:Lv A B C D E F n) (e0:bF (A-0) B C=c0) (g0:decide (c0<0)=false) (_g1:decide (c0≥0)=true) (oA:Ok Tryz.prog 337 [.a ((cR A++cR B++cR C))] [dR (n:Rat)]) (hc:bF (D-((n:Rat)+1)) E F=c) (hg:decide (c>0)=false) (hd:bF (A-(n:Rat)-0) B C=d) (he:(d==0)=true) (hw2:((D-(n:Rat))*(D-(n:Rat))-E*E*F)*w2=1) (hz:Sz 3421 m) (oT:Ok Tryz.prog 337 [.a ((cR ((D-(n:Rat))*w2)++cR (-E*w2)++cR F))] [dR (m:Rat)]) (y0:((m:Rat)+1)≠0):Ok Tryz.prog 269 [.a ((cR A++cR B++cR C)),.a ((cR D++cR E++cR F))] [dR ((n:Rat)+1/((m:Rat)+1))]:=by
 have o1:Rz 6000000 (1:Rat):=pe (by decide+kernel)
 have s1:Sz 19980000 (1:Int):=dS (by decide) (by decide) (by decide)
 have kn:Rz 6000000 (n:Rat):=L.zn.m_
 have sn:Sz 19980000 n:=L.nz.m_
 have kA:Rz 6000000 A:=L.kA.m_
 have kD:Rz 6000000 D:=L.kD.m_
 have z0:Rz 2 (0:Rat):=dJ (by decide)
 have h0:Rz 6000000 (0:Rat):=dJ (by decide)
 have zm:Rz 3421 (m:Rat):=eG hz (by decide)
 have km:Rz 6000000 (m:Rat):=zm.m_
 have zy:Rz 3423 ((m:Rat)+1):=zm.add (l:=1) (pe (by decide+kernel))
 have ky:Rz 6000000 ((m:Rat)+1):=zy.m_
 have kp:Rz 6000000 (1/((m:Rat)+1)):=(nJ (k:=1) (pe (by decide+kernel)) zy y0).m_
 refine eo vf 81 [.cell 4 38] rfl<|aa<|ag<|aa<|ag<|ac rfl ((show Ok Tryz.prog 18 [.c (.i .i64 1)] [dR 1] from d8 (by omega) (by omega)))<|ac rfl ((show Ok Tryz.prog 18 [.c (.i .i64 0)] [dR 0] from d8 (by omega) (by omega)))<|aa<|aa<|bm<|bU 2<|aU (cb rfl (cA (b6 kA h0 ((L.hA.sub z0).m_) (L.kB.m_) (L.kC.m_)) e0))<|aU (a8 (fh rfl) g0) ?_
 refine ed<|bz rfl<|aA<|aa<|ag ?_
 refine ac rfl (oA)<|aa<|ag ?_
 refine ac rfl (cS kn o1)<|aa<|aa<|bm<|bU 2 ?_
 refine aU (cb rfl (cA (b6 kD (L.zn1.m_) (L.dn1.m_) (L.kE.m_) (L.kF.m_)) hc)) ?_
 refine aU (a8 (fh rfl) hg) ?_
 refine bt<|bz rfl<|aA<|aa<|dC 8 [] ?_
 refine aK rfl (ol kA kn) ?_
 refine aK rfl (ol kD kn)<|aa<|ag<|aa<|aa<|bm<|bU 2 ?_
 refine aU (cb rfl (cA (b6 (L.an.m_) h0 ((L.an.sub z0).m_) (L.kB.m_) (L.kC.m_)) hd)) ?_
 refine aU (a8 (fh rfl) he) ?_
 refine bt<|dO rfl<|dC 5 [] ?_
 refine aK rfl (nU (L.dn.m_) (L.kE.m_) (L.kF.m_) hw2) ?_
 refine aK rfl (oT) ?_
 refine aK rfl (cS km o1)<|aa<|ag ?_
 refine ac rfl (oB o1 ky y0)<|aa<|ag ?_
 refine ac rfl (cS kn kp) ?_
 refine a7 ?_
 exact ah (aS aZ rfl ae)
theorem Zi (L:Lv A B C D E F n) (e0:bF (A-0) B C=c0) (g0:decide (c0<0)=false) (_g1:decide (c0≥0)=true) (oA:Ok Tryz.prog 337 [.a ((cR A++cR B++cR C))] [dR (n:Rat)]) (hc:bF (D-((n:Rat)+1)) E F=c) (hg:decide (c>0)=false) (hd:bF (A-(n:Rat)-0) B C=d) (he:(d==0)=false) (hw2:((D-(n:Rat))*(D-(n:Rat))-E*E*F)*w2=1) (hw1:((A-(n:Rat))*(A-(n:Rat))-B*B*C)*w1=1) (ih:Ok Tryz.prog 269 [.a ((cR ((D-(n:Rat))*w2)++cR (-E*w2)++cR F)),.a ((cR ((A-(n:Rat))*w1)++cR (-B*w1)++cR C))] [dR (fr P Q)]) (zy:Rz 6841 (fr P Q)) (y0:fr P Q≠0):Ok Tryz.prog 269 [.a ((cR A++cR B++cR C)),.a ((cR D++cR E++cR F))] [dR ((n:Rat)+1/fr P Q)]:=by
 have o1:Rz 6000000 (1:Rat):=pe (by decide+kernel)
 have s1:Sz 19980000 (1:Int):=dS (by decide) (by decide) (by decide)
 have kn:Rz 6000000 (n:Rat):=L.zn.m_
 have sn:Sz 19980000 n:=L.nz.m_
 have kA:Rz 6000000 A:=L.kA.m_
 have kD:Rz 6000000 D:=L.kD.m_
 have z0:Rz 2 (0:Rat):=dJ (by decide)
 have h0:Rz 6000000 (0:Rat):=dJ (by decide)
 have ky:Rz 6000000 (fr P Q):=zy.m_
 have kp:Rz 6000000 (1/fr P Q):=(nJ (k:=1) (pe (by decide+kernel)) zy y0).m_
 refine eo vf 81 [.cell 4 38] rfl<|aa<|ag<|aa<|ag<|ac rfl ((show Ok Tryz.prog 18 [.c (.i .i64 1)] [dR 1] from d8 (by omega) (by omega)))<|ac rfl ((show Ok Tryz.prog 18 [.c (.i .i64 0)] [dR 0] from d8 (by omega) (by omega)))<|aa<|aa<|bm<|bU 2<|aU (cb rfl (cA (b6 kA h0 ((L.hA.sub z0).m_) (L.kB.m_) (L.kC.m_)) e0))<|aU (a8 (fh rfl) g0) ?_
 refine ed<|bz rfl<|aA<|aa<|ag ?_
 refine ac rfl (oA)<|aa<|ag ?_
 refine ac rfl (cS kn o1)<|aa<|aa<|bm<|bU 2 ?_
 refine aU (cb rfl (cA (b6 kD (L.zn1.m_) (L.dn1.m_) (L.kE.m_) (L.kF.m_)) hc)) ?_
 refine aU (a8 (fh rfl) hg) ?_
 refine bt<|bz rfl<|aA<|aa<|dC 8 [] ?_
 refine aK rfl (ol kA kn) ?_
 refine aK rfl (ol kD kn)<|aa<|ag<|aa<|aa<|bm<|bU 2 ?_
 refine aU (cb rfl (cA (b6 (L.an.m_) h0 ((L.an.sub z0).m_) (L.kB.m_) (L.kC.m_)) hd)) ?_
 refine aU (a8 (fh rfl) he) ?_
 refine bt<|bz rfl<|dC 5 [] ?_
 refine aK rfl (nU (L.dn.m_) (L.kE.m_) (L.kF.m_) hw2) ?_
 refine aK rfl (nU (L.an.m_) (L.kB.m_) (L.kC.m_) hw1) ?_
 refine aK rfl (ih)<|aa<|ag ?_
 refine ac rfl (oB o1 ky y0)<|aa<|ag ?_
 refine ac rfl (cS kn kp) ?_
 refine a7 ?_
 exact ah (aS aZ rfl ae)
theorem Tx (L:Lv A B C D E F n) (e0:bF (A-0) B C=c0) (g0:decide (c0<0)=true) (g1:decide (c0≥0)=false) (f0:bF (D-0) E F=d0) (k0:decide (d0>0)=false) (oA:Ok Tryz.prog 337 [.a ((cR A++cR B++cR C))] [dR (n:Rat)]) (hc:bF (D-((n:Rat)+1)) E F=c) (hg:decide (c>0)=true) (hz:Sz 3421 m) (oT:Ok Tryz.prog 337 [.a ((cR D++cR E++cR F))] [dR (m:Rat)]) (hm2:bF (D-(m:Rat)) E F=m2) (he:(m2==0)=true):Ok Tryz.prog 269 [.a ((cR A++cR B++cR C)),.a ((cR D++cR E++cR F))] [dR ((m:Rat)-1)]:=by
 have o1:Rz 6000000 (1:Rat):=pe (by decide+kernel)
 have s1:Sz 19980000 (1:Int):=dS (by decide) (by decide) (by decide)
 have kn:Rz 6000000 (n:Rat):=L.zn.m_
 have sn:Sz 19980000 n:=L.nz.m_
 have kA:Rz 6000000 A:=L.kA.m_
 have kD:Rz 6000000 D:=L.kD.m_
 have z0:Rz 2 (0:Rat):=dJ (by decide)
 have h0:Rz 6000000 (0:Rat):=dJ (by decide)
 have zm:Rz 3421 (m:Rat):=eG hz (by decide)
 have km:Rz 6000000 (m:Rat):=zm.m_
 refine eo vf 81 [.cell 4 38] rfl<|aa<|ag<|aa<|ag<|ac rfl ((show Ok Tryz.prog 18 [.c (.i .i64 1)] [dR 1] from d8 (by omega) (by omega)))<|ac rfl ((show Ok Tryz.prog 18 [.c (.i .i64 0)] [dR 0] from d8 (by omega) (by omega)))<|aa<|aa<|bm<|bU 2<|aU (cb rfl (cA (b6 kA h0 ((L.hA.sub z0).m_) (L.kB.m_) (L.kC.m_)) e0))<|aU (a8 (fh rfl) g0) ?_
 refine bU 3<|aU (cb rfl (cA (b6 kD h0 ((L.hD.sub z0).m_) (L.kE.m_) (L.kF.m_)) f0))<|aU (a8 (fh rfl) k0) ?_
 refine ed<|bz rfl<|aA<|aa<|ag ?_
 refine ac rfl (oA)<|aa<|ag ?_
 refine ac rfl (cS kn o1)<|aa<|aa<|bm<|bU 2 ?_
 refine aU (cb rfl (cA (b6 kD (L.zn1.m_) (L.dn1.m_) (L.kE.m_) (L.kF.m_)) hc)) ?_
 refine aU (a8 (fh rfl) hg) ?_
 refine bt<|dO rfl<|aa<|aa<|bm<|bU 2<|aU (cb rfl (cA (b6 kA h0 ((L.hA.sub z0).m_) (L.kB.m_) (L.kC.m_)) e0))<|aU (a8 (fh rfl) g1) ?_
 refine bt<|bz rfl<|aA<|aa<|ag ?_
 refine ac rfl (oT)<|aa<|aa<|bm<|bU 2 ?_
 refine aU (cb rfl (cA (b6 kD km ((L.hD.sub zm).m_) (L.kE.m_) (L.kF.m_)) hm2))<|aU (a8 (fh rfl) he) ?_
 refine bt<|dO rfl<|ag ?_
 refine ac rfl (dM km o1) ?_
 refine aa<|ag ?_
 refine a7 ?_
 exact ah (aS aZ rfl ae)
theorem Vm (L:Lv A B C D E F n) (e0:bF (A-0) B C=c0) (g0:decide (c0<0)=true) (g1:decide (c0≥0)=false) (f0:bF (D-0) E F=d0) (k0:decide (d0>0)=false) (oA:Ok Tryz.prog 337 [.a ((cR A++cR B++cR C))] [dR (n:Rat)]) (hc:bF (D-((n:Rat)+1)) E F=c) (hg:decide (c>0)=true) (hz:Sz 3421 m) (oT:Ok Tryz.prog 337 [.a ((cR D++cR E++cR F))] [dR (m:Rat)]) (hm2:bF (D-(m:Rat)) E F=m2) (he:(m2==0)=false):Ok Tryz.prog 269 [.a ((cR A++cR B++cR C)),.a ((cR D++cR E++cR F))] [dR (m:Rat)]:=by
 have o1:Rz 6000000 (1:Rat):=pe (by decide+kernel)
 have s1:Sz 19980000 (1:Int):=dS (by decide) (by decide) (by decide)
 have kn:Rz 6000000 (n:Rat):=L.zn.m_
 have sn:Sz 19980000 n:=L.nz.m_
 have kA:Rz 6000000 A:=L.kA.m_
 have kD:Rz 6000000 D:=L.kD.m_
 have z0:Rz 2 (0:Rat):=dJ (by decide)
 have h0:Rz 6000000 (0:Rat):=dJ (by decide)
 have zm:Rz 3421 (m:Rat):=eG hz (by decide)
 have km:Rz 6000000 (m:Rat):=zm.m_
 refine eo vf 81 [.cell 4 38] rfl<|aa<|ag<|aa<|ag<|ac rfl ((show Ok Tryz.prog 18 [.c (.i .i64 1)] [dR 1] from d8 (by omega) (by omega)))<|ac rfl ((show Ok Tryz.prog 18 [.c (.i .i64 0)] [dR 0] from d8 (by omega) (by omega)))<|aa<|aa<|bm<|bU 2<|aU (cb rfl (cA (b6 kA h0 ((L.hA.sub z0).m_) (L.kB.m_) (L.kC.m_)) e0))<|aU (a8 (fh rfl) g0) ?_
 refine bU 3<|aU (cb rfl (cA (b6 kD h0 ((L.hD.sub z0).m_) (L.kE.m_) (L.kF.m_)) f0))<|aU (a8 (fh rfl) k0) ?_
 refine ed<|bz rfl<|aA<|aa<|ag ?_
 refine ac rfl (oA)<|aa<|ag ?_
 refine ac rfl (cS kn o1)<|aa<|aa<|bm<|bU 2 ?_
 refine aU (cb rfl (cA (b6 kD (L.zn1.m_) (L.dn1.m_) (L.kE.m_) (L.kF.m_)) hc)) ?_
 refine aU (a8 (fh rfl) hg) ?_
 refine bt<|dO rfl<|aa<|aa<|bm<|bU 2<|aU (cb rfl (cA (b6 kA h0 ((L.hA.sub z0).m_) (L.kB.m_) (L.kC.m_)) e0))<|aU (a8 (fh rfl) g1) ?_
 refine bt<|bz rfl<|aA<|aa<|ag ?_
 refine ac rfl (oT)<|aa<|aa<|bm<|bU 2 ?_
 refine aU (cb rfl (cA (b6 kD km ((L.hD.sub zm).m_) (L.kE.m_) (L.kF.m_)) hm2))<|aU (a8 (fh rfl) he) ?_
 refine bt<|bz rfl<|aA<|aa<|ag ?_
 refine a7 ?_
 exact ah (aS aZ rfl ae)
theorem Z3 (L:Lv A B C D E F n) (e0:bF (A-0) B C=c0) (g0:decide (c0<0)=true) (_g1:decide (c0≥0)=false) (f0:bF (D-0) E F=d0) (k0:decide (d0>0)=false) (oA:Ok Tryz.prog 337 [.a ((cR A++cR B++cR C))] [dR (n:Rat)]) (hc:bF (D-((n:Rat)+1)) E F=c) (hg:decide (c>0)=false) (hd:bF (A-(n:Rat)-0) B C=d) (he:(d==0)=true) (hw2:((D-(n:Rat))*(D-(n:Rat))-E*E*F)*w2=1) (hz:Sz 3421 m) (oT:Ok Tryz.prog 337 [.a ((cR ((D-(n:Rat))*w2)++cR (-E*w2)++cR F))] [dR (m:Rat)]) (y0:((m:Rat)+1)≠0):Ok Tryz.prog 269 [.a ((cR A++cR B++cR C)),.a ((cR D++cR E++cR F))] [dR ((n:Rat)+1/((m:Rat)+1))]:=by
 have o1:Rz 6000000 (1:Rat):=pe (by decide+kernel)
 have s1:Sz 19980000 (1:Int):=dS (by decide) (by decide) (by decide)
 have kn:Rz 6000000 (n:Rat):=L.zn.m_
 have sn:Sz 19980000 n:=L.nz.m_
 have kA:Rz 6000000 A:=L.kA.m_
 have kD:Rz 6000000 D:=L.kD.m_
 have z0:Rz 2 (0:Rat):=dJ (by decide)
 have h0:Rz 6000000 (0:Rat):=dJ (by decide)
 have zm:Rz 3421 (m:Rat):=eG hz (by decide)
 have km:Rz 6000000 (m:Rat):=zm.m_
 have zy:Rz 3423 ((m:Rat)+1):=zm.add (l:=1) (pe (by decide+kernel))
 have ky:Rz 6000000 ((m:Rat)+1):=zy.m_
 have kp:Rz 6000000 (1/((m:Rat)+1)):=(nJ (k:=1) (pe (by decide+kernel)) zy y0).m_
 refine eo vf 81 [.cell 4 38] rfl<|aa<|ag<|aa<|ag<|ac rfl ((show Ok Tryz.prog 18 [.c (.i .i64 1)] [dR 1] from d8 (by omega) (by omega)))<|ac rfl ((show Ok Tryz.prog 18 [.c (.i .i64 0)] [dR 0] from d8 (by omega) (by omega)))<|aa<|aa<|bm<|bU 2<|aU (cb rfl (cA (b6 kA h0 ((L.hA.sub z0).m_) (L.kB.m_) (L.kC.m_)) e0))<|aU (a8 (fh rfl) g0) ?_
 refine bU 3<|aU (cb rfl (cA (b6 kD h0 ((L.hD.sub z0).m_) (L.kE.m_) (L.kF.m_)) f0))<|aU (a8 (fh rfl) k0) ?_
 refine ed<|bz rfl<|aA<|aa<|ag ?_
 refine ac rfl (oA)<|aa<|ag ?_
 refine ac rfl (cS kn o1)<|aa<|aa<|bm<|bU 2 ?_
 refine aU (cb rfl (cA (b6 kD (L.zn1.m_) (L.dn1.m_) (L.kE.m_) (L.kF.m_)) hc)) ?_
 refine aU (a8 (fh rfl) hg) ?_
 refine bt<|bz rfl<|aA<|aa<|dC 8 [] ?_
 refine aK rfl (ol kA kn) ?_
 refine aK rfl (ol kD kn)<|aa<|ag<|aa<|aa<|bm<|bU 2 ?_
 refine aU (cb rfl (cA (b6 (L.an.m_) h0 ((L.an.sub z0).m_) (L.kB.m_) (L.kC.m_)) hd)) ?_
 refine aU (a8 (fh rfl) he) ?_
 refine bt<|dO rfl<|dC 5 [] ?_
 refine aK rfl (nU (L.dn.m_) (L.kE.m_) (L.kF.m_) hw2) ?_
 refine aK rfl (oT) ?_
 refine aK rfl (cS km o1)<|aa<|ag ?_
 refine ac rfl (oB o1 ky y0)<|aa<|ag ?_
 refine ac rfl (cS kn kp) ?_
 refine a7 ?_
 exact ah (aS aZ rfl ae)
theorem Zz (L:Lv A B C D E F n) (e0:bF (A-0) B C=c0) (g0:decide (c0<0)=true) (_g1:decide (c0≥0)=false) (f0:bF (D-0) E F=d0) (k0:decide (d0>0)=false) (oA:Ok Tryz.prog 337 [.a ((cR A++cR B++cR C))] [dR (n:Rat)]) (hc:bF (D-((n:Rat)+1)) E F=c) (hg:decide (c>0)=false) (hd:bF (A-(n:Rat)-0) B C=d) (he:(d==0)=false) (hw2:((D-(n:Rat))*(D-(n:Rat))-E*E*F)*w2=1) (hw1:((A-(n:Rat))*(A-(n:Rat))-B*B*C)*w1=1) (ih:Ok Tryz.prog 269 [.a ((cR ((D-(n:Rat))*w2)++cR (-E*w2)++cR F)),.a ((cR ((A-(n:Rat))*w1)++cR (-B*w1)++cR C))] [dR (fr P Q)]) (zy:Rz 6841 (fr P Q)) (y0:fr P Q≠0):Ok Tryz.prog 269 [.a ((cR A++cR B++cR C)),.a ((cR D++cR E++cR F))] [dR ((n:Rat)+1/fr P Q)]:=by
 have o1:Rz 6000000 (1:Rat):=pe (by decide+kernel)
 have s1:Sz 19980000 (1:Int):=dS (by decide) (by decide) (by decide)
 have kn:Rz 6000000 (n:Rat):=L.zn.m_
 have sn:Sz 19980000 n:=L.nz.m_
 have kA:Rz 6000000 A:=L.kA.m_
 have kD:Rz 6000000 D:=L.kD.m_
 have z0:Rz 2 (0:Rat):=dJ (by decide)
 have h0:Rz 6000000 (0:Rat):=dJ (by decide)
 have ky:Rz 6000000 (fr P Q):=zy.m_
 have kp:Rz 6000000 (1/fr P Q):=(nJ (k:=1) (pe (by decide+kernel)) zy y0).m_
 refine eo vf 81 [.cell 4 38] rfl<|aa<|ag<|aa<|ag<|ac rfl ((show Ok Tryz.prog 18 [.c (.i .i64 1)] [dR 1] from d8 (by omega) (by omega)))<|ac rfl ((show Ok Tryz.prog 18 [.c (.i .i64 0)] [dR 0] from d8 (by omega) (by omega)))<|aa<|aa<|bm<|bU 2<|aU (cb rfl (cA (b6 kA h0 ((L.hA.sub z0).m_) (L.kB.m_) (L.kC.m_)) e0))<|aU (a8 (fh rfl) g0) ?_
 refine bU 3<|aU (cb rfl (cA (b6 kD h0 ((L.hD.sub z0).m_) (L.kE.m_) (L.kF.m_)) f0))<|aU (a8 (fh rfl) k0) ?_
 refine ed<|bz rfl<|aA<|aa<|ag ?_
 refine ac rfl (oA)<|aa<|ag ?_
 refine ac rfl (cS kn o1)<|aa<|aa<|bm<|bU 2 ?_
 refine aU (cb rfl (cA (b6 kD (L.zn1.m_) (L.dn1.m_) (L.kE.m_) (L.kF.m_)) hc)) ?_
 refine aU (a8 (fh rfl) hg) ?_
 refine bt<|bz rfl<|aA<|aa<|dC 8 [] ?_
 refine aK rfl (ol kA kn) ?_
 refine aK rfl (ol kD kn)<|aa<|ag<|aa<|aa<|bm<|bU 2 ?_
 refine aU (cb rfl (cA (b6 (L.an.m_) h0 ((L.an.sub z0).m_) (L.kB.m_) (L.kC.m_)) hd)) ?_
 refine aU (a8 (fh rfl) he) ?_
 refine bt<|bz rfl<|dC 5 [] ?_
 refine aK rfl (nU (L.dn.m_) (L.kE.m_) (L.kF.m_) hw2) ?_
 refine aK rfl (nU (L.an.m_) (L.kB.m_) (L.kC.m_) hw1) ?_
 refine aK rfl (ih)<|aa<|ag ?_
 refine ac rfl (oB o1 ky y0)<|aa<|ag ?_
 refine ac rfl (cS kn kp) ?_
 refine a7 ?_
 exact ah (aS aZ rfl ae)
theorem ab0 (L:Lv A B C D E F n) (hc:fD (D-((n:Rat)+1)) E (-0) 0 F 0=c) (hg:decide (c>0)=true):Ok Tryz.prog 228 [.a ((cR A++cR B++cR C)),.a ((cR D++cR E++cR F))] [dR ((n:Rat)+1)]:=by
 have o1:Rz 6000000 (1:Rat):=pe (by decide+kernel)
 have s1:Sz 19980000 (1:Int):=dS (by decide) (by decide) (by decide)
 have kn:Rz 6000000 (n:Rat):=L.zn.m_
 have sn:Sz 19980000 n:=L.nz.m_
 have kA:Rz 6000000 A:=L.kA.m_
 have kD:Rz 6000000 D:=L.kD.m_
 refine eo Tryz.func228 74 [.cell 4 38] rfl<|aa<|ag<|aa<|ag<|ac rfl ((show Ok Tryz.prog 70 [.c (.i .i64 1)] [dR 1] from f7 (by omega) (by omega)))<|aa<|ag ?_
 refine ac rfl (Gk (re (L.hA.m_) (L.hB.m_) (L.hC.m_)) L.nf.symm) ?_
 refine ac rfl ((show Ok Tryz.prog 163 [.c (.i .i64 1)] [dI 1] from jb (by decide) (by decide))) ?_
 refine ac rfl (wW (xi sn s1 (by decide)) (dv1 _))<|aa<|ag ?_
 refine ac rfl (ja kn o1) ?_
 refine aa<|aa<|bm<|bU 2<|aU (cb rfl (cA (ew (L.kD.m_) L.kE L.kF (L.zn1.m_) L.dn1 L.v2.c0) hc))<|aU (a8 (fh rfl) hg) ?_
 refine bt<|dO rfl<|aa<|ag ?_
 refine a7 ?_
 exact ah (aS aZ rfl ae)
theorem abH (L:Lv A B C D E F n) (hc:fD (D-((n:Rat)+1)) E (-0) 0 F 0=c) (hg:decide (c>0)=false) (hd:fD (A-(n:Rat)) B (-0) 0 C 0=d) (he:(d==0)=true) (i1:vJ (D-(n:Rat)) E F≠0∧(D-(n:Rat))*(D-(n:Rat))-E*E*F≠0∧HM (D-(n:Rat)) E F=w2∧zc (-E*w2) F=F) (tA:Rz 25000 ((D-(n:Rat))*w2)) (tB:Rz 25000 (-E*w2)) (hm:m=oX ((D-(n:Rat))*w2) (-E*w2) F) (hz:Sz 3421 m) (y0:((m:Rat)+1)≠0):Ok Tryz.prog 228 [.a ((cR A++cR B++cR C)),.a ((cR D++cR E++cR F))] [dR ((n:Rat)+1/((m:Rat)+1))]:=by
 have o1:Rz 6000000 (1:Rat):=pe (by decide+kernel)
 have s1:Sz 19980000 (1:Int):=dS (by decide) (by decide) (by decide)
 have kn:Rz 6000000 (n:Rat):=L.zn.m_
 have sn:Sz 19980000 n:=L.nz.m_
 have kA:Rz 6000000 A:=L.kA.m_
 have kD:Rz 6000000 D:=L.kD.m_
 have sm:Sz 19980000 m:=hz.m_
 have zm:Rz 3421 (m:Rat):=eG hz (by decide)
 have km:Rz 6000000 (m:Rat):=zm.m_
 have zy:Rz 3423 ((m:Rat)+1):=zm.add (l:=1) (pe (by decide+kernel))
 have ky:Rz 6000000 ((m:Rat)+1):=zy.m_
 have kp:Rz 6000000 (1/((m:Rat)+1)):=(nJ (k:=1) (pe (by decide+kernel)) zy y0).m_
 refine eo Tryz.func228 74 [.cell 4 38] rfl<|aa<|ag<|aa<|ag<|ac rfl ((show Ok Tryz.prog 70 [.c (.i .i64 1)] [dR 1] from f7 (by omega) (by omega)))<|aa<|ag ?_
 refine ac rfl (Gk (re (L.hA.m_) (L.hB.m_) (L.hC.m_)) L.nf.symm) ?_
 refine ac rfl ((show Ok Tryz.prog 163 [.c (.i .i64 1)] [dI 1] from jb (by decide) (by decide))) ?_
 refine ac rfl (wW (xi sn s1 (by decide)) (dv1 _))<|aa<|ag ?_
 refine ac rfl (ja kn o1) ?_
 refine aa<|aa<|bm<|bU 2<|aU (cb rfl (cA (ew (L.kD.m_) L.kE L.kF (L.zn1.m_) L.dn1 L.v2.c0) hc))<|aU (a8 (fh rfl) hg) ?_
 refine bt<|bz rfl<|aA<|aa<|ag ?_
 refine ac rfl (Al kD kn) ?_
 refine ac rfl (wN (A7 (L.dn.m_) (L.kE.m_) (L.kF.m_) i1.1 i1.2.1) (congrArg _ i1.2.2.1) (congrArg _ i1.2.2.1) ((congrArg (fun w=>zc (-E*w) F) i1.2.2.1).trans i1.2.2.2))<|aa<|ag<|aa<|aa<|bm<|bU 2 ?_
 refine aU (cb rfl (cA (ew (L.kA.m_) L.kB L.kC (L.zn.m_) L.an L.v1.c0) hd)) ?_
 refine aU (a8 (fh rfl) he) ?_
 refine bt<|dO rfl<|aa<|ag ?_
 refine ac rfl (Gk (re (tA.m_) (tB.m_) (L.hF.m_)) hm.symm) ?_
 refine ac rfl ((show Ok Tryz.prog 163 [.c (.i .i64 1)] [dI 1] from jb (by decide) (by decide))) ?_
 refine ac rfl (wW (xi sm s1 (by decide)) (dv1 _))<|ag ?_
 refine ac rfl (ja km o1) ?_
 refine aa<|ag ?_
 refine ac rfl (qt o1 ky y0) ?_
 refine aa<|ag ?_
 refine ac rfl (ja kn kp) ?_
 refine a7 ?_
 exact ah (aS aZ rfl ae)
theorem abu (L:Lv A B C D E F n) (hc:fD (D-((n:Rat)+1)) E (-0) 0 F 0=c) (hg:decide (c>0)=false) (hd:fD (A-(n:Rat)) B (-0) 0 C 0=d) (he:(d==0)=false) (i1:vJ (D-(n:Rat)) E F≠0∧(D-(n:Rat))*(D-(n:Rat))-E*E*F≠0∧HM (D-(n:Rat)) E F=w2∧zc (-E*w2) F=F) (i2:vJ (A-(n:Rat)) B C≠0∧(A-(n:Rat))*(A-(n:Rat))-B*B*C≠0∧HM (A-(n:Rat)) B C=w1∧zc (-B*w1) C=C) (ih:Ok Tryz.prog 228 [.a ((cR ((D-(n:Rat))*w2)++cR (-E*w2)++cR F)),.a ((cR ((A-(n:Rat))*w1)++cR (-B*w1)++cR C))] [dR (fr P Q)]) (zy:Rz 6841 (fr P Q)) (y0:fr P Q≠0):Ok Tryz.prog 228 [.a ((cR A++cR B++cR C)),.a ((cR D++cR E++cR F))] [dR ((n:Rat)+1/fr P Q)]:=by
 have o1:Rz 6000000 (1:Rat):=pe (by decide+kernel)
 have s1:Sz 19980000 (1:Int):=dS (by decide) (by decide) (by decide)
 have kn:Rz 6000000 (n:Rat):=L.zn.m_
 have sn:Sz 19980000 n:=L.nz.m_
 have kA:Rz 6000000 A:=L.kA.m_
 have kD:Rz 6000000 D:=L.kD.m_
 have ky:Rz 6000000 (fr P Q):=zy.m_
 have kp:Rz 6000000 (1/fr P Q):=(nJ (k:=1) (pe (by decide+kernel)) zy y0).m_
 refine eo Tryz.func228 74 [.cell 4 38] rfl<|aa<|ag<|aa<|ag<|ac rfl ((show Ok Tryz.prog 70 [.c (.i .i64 1)] [dR 1] from f7 (by omega) (by omega)))<|aa<|ag ?_
 refine ac rfl (Gk (re (L.hA.m_) (L.hB.m_) (L.hC.m_)) L.nf.symm) ?_
 refine ac rfl ((show Ok Tryz.prog 163 [.c (.i .i64 1)] [dI 1] from jb (by decide) (by decide))) ?_
 refine ac rfl (wW (xi sn s1 (by decide)) (dv1 _))<|aa<|ag ?_
 refine ac rfl (ja kn o1) ?_
 refine aa<|aa<|bm<|bU 2<|aU (cb rfl (cA (ew (L.kD.m_) L.kE L.kF (L.zn1.m_) L.dn1 L.v2.c0) hc))<|aU (a8 (fh rfl) hg) ?_
 refine bt<|bz rfl<|aA<|aa<|ag ?_
 refine ac rfl (Al kD kn) ?_
 refine ac rfl (wN (A7 (L.dn.m_) (L.kE.m_) (L.kF.m_) i1.1 i1.2.1) (congrArg _ i1.2.2.1) (congrArg _ i1.2.2.1) ((congrArg (fun w=>zc (-E*w) F) i1.2.2.1).trans i1.2.2.2))<|aa<|ag<|aa<|aa<|bm<|bU 2 ?_
 refine aU (cb rfl (cA (ew (L.kA.m_) L.kB L.kC (L.zn.m_) L.an L.v1.c0) hd)) ?_
 refine aU (a8 (fh rfl) he) ?_
 refine bt<|bz rfl<|aa<|ag ?_
 refine ac rfl (Al kA kn) ?_
 refine ac rfl (wN (A7 (L.an.m_) (L.kB.m_) (L.kC.m_) i2.1 i2.2.1) (congrArg _ i2.2.2.1) (congrArg _ i2.2.2.1) ((congrArg (fun w=>zc (-B*w) C) i2.2.2.1).trans i2.2.2.2))<|ag ?_
 refine ac rfl (ih) ?_
 refine aa<|ag ?_
 refine ac rfl (qt o1 ky y0) ?_
 refine aa<|ag ?_
 refine ac rfl (ja kn kp) ?_
 refine a7 ?_
 exact ah (aS aZ rfl ae)
theorem H8 (x:Rat):((x.num.fdiv (x.den:Int):Int):Rat)≤x∧x<((x.num.fdiv (x.den:Int)+1:Int):Rat):=by
 have dn:=den_pos x
 obtain⟨h1,h2⟩:=MO (Z:=x.num) dn
 have hn:=uM x
 have hp:(0:Rat)<((x.den:Int):Rat):=uv.2 dn
 refine⟨qI hp ?_,?_⟩
 ·rw[hn,←f8];exact fI.2 h1
 ·apply gg
  intro hc
  have h3:=sN (show((x.num.fdiv (x.den:Int)+1:Int):Rat)≤x by grind) (show(0:Rat)≤((x.den:Int):Rat) by grind)
  rw[hn,←f8] at h3
  have h4:=fI.1 h3
  omega
section
variable {a b c:Rat}
theorem abp (hc:0≤c):cD (Re.of ((bY ((b*b*c).num.fdiv ((b*b*c).den:Int)):Int):Rat)) (Re.of (if b<0 then-b else b)*Re.rt c)∧
 cD (Re.of (if b<0 then-b else b)*Re.rt c) (Re.of ((bY ((b*b*c).num.fdiv ((b*b*c).den:Int))+1:Int):Rat)):=by
 have hbc:0≤b*b*c:=by
  have:0≤b*b:=by
   by_cases h:0≤b
   ·exact jo h h
   ·have:=jo (show 0≤ -b by grind) (show 0≤ -b by grind);grind
  exact jo this hc
 obtain⟨q1,q2⟩:=H8 (b*b*c)
 have hw:0≤(b*b*c).num.fdiv ((b*b*c).den:Int):=by
  have h1:((0:Int):Rat)<(((b*b*c).num.fdiv ((b*b*c).den:Int)+1:Int):Rat):=by have:=hbc;have:=q2;grind
  have:=iM.1 h1
  omega
 have t1:=rJ hw
 have t2:=wI hw
 have t0:=fg ((b*b*c).num.fdiv ((b*b*c).den:Int))
 generalize (b*b*c).num.fdiv ((b*b*c).den:Int)=w at*
 generalize bY w=t at*
 generalize hb':(if b<0 then-b else b)=b'
 have hb2:b'*b'=b*b∧0≤b':=by grind
 have nnR:0≤aT (Re.of b'*Re.rt c):=by
  have p2:0≤aT (Re.of b'):=by rw[cV];exact kJ hb2.2
  have p3:=xy c
  rw[bH]
  exact fZ p2 p3
 have eS: ∀q:Rat,aT (Re.of b'*Re.rt c*(Re.of b'*Re.rt c)-Re.of q)=aM (b*b*c) q:=by
  intro q
  rw[←oK,←cV]
  refine dV ?_
  rw[show Re.of b'*Re.rt c*(Re.of b'*Re.rt c)-Re.of q-Re.of (b*b*c-q)=Re.of (b'*b')*(Re.rt c*Re.rt c-Re.of c) from br fun k=>by
   simp only[aI,aR,bc];grind,bH,oE hc,pF]
 refine⟨?_,?_⟩
 ·refine qP (wK t0) nnR ?_
  rw[ia,eS,←f8]
  exact kJ (Rat.le_trans (fI.2 t1) q1)
 ·refine qP nnR (wK (by omega)) ?_
  have h3:0≤ -aT (Re.of b'*Re.rt c*(Re.of b'*Re.rt c)-Re.of (((t+1:Int):Rat)*((t+1:Int):Rat))):=by
   rw[eS,←f8]
   have h4:b*b*c≤(((t+1)*(t+1):Int):Rat):=Rat.le_trans (Rat.le_of_lt q2) (fI.2 (by omega))
   have:=CM (x:=b*b*c) (y:=(((t+1)*(t+1):Int):Rat)) h4
   omega
  rw[←cj] at h3
  refine lk (fun k=>?_) h3
  simp only[bD,aI,aR,bc];grind
theorem PS (m n:Int):((m:Int):Rat)+((n:Int):Rat)=((m+n:Int):Rat):=(kW m n).symm
theorem U9 (hv:Vl b c):(¬b<0→oX a b c=a.num.fdiv (a.den:Int)+bY ((b*b*c).num.fdiv ((b*b*c).den:Int))∨oX a b c=a.num.fdiv (a.den:Int)+bY ((b*b*c).num.fdiv ((b*b*c).den:Int))+1)∧
 (b<0→oX a b c=a.num.fdiv (a.den:Int)-bY ((b*b*c).num.fdiv ((b*b*c).den:Int))∨oX a b c=a.num.fdiv (a.den:Int)-bY ((b*b*c).num.fdiv ((b*b*c).den:Int))-1):=by
 have f1:cD (Re.of ((oX a b c:Int):Rat)) (aB a b c):=(uz hv.c0).1
 have f2:=vn (x:=a) (y:=b) hv.c0 hv.v
 obtain⟨r1,r2⟩:=abp (b:=b) hv.c0
 obtain⟨u1,u2⟩:=H8 a
 generalize oX a b c=n at*
 generalize a.num.fdiv (a.den:Int)=u at*
 generalize bY ((b*b*c).num.fdiv ((b*b*c).den:Int))=t at*
 have key: ∀Y:Re,∀l h:Int,aB a b c=Re.of a+Y→cD (Re.of (l:Rat)) Y→cD Y (Re.of (h:Rat))→u+l<n+1∧n<u+1+h:=by
  intro Y l h e g1 g2
  have k1:=fA (of_le u1) g1
  rw[←e,show Re.of (u:Rat)+Re.of (l:Rat)=Re.of (((u+l:Int)):Rat) from br fun k=>by simp only[aQ,bc,kW]] at k1
  have k2:=fA (gZ (Re.of a)) g2
  rw[←e,show Re.of a+Re.of (h:Rat)=Re.of (a+(h:Rat)) from br fun k=>by simp only[aQ,bc]] at k2
  have k3:=qq k1 f2
  have k4:=gl (ex f1 k2)
  have k5:(n:Rat)<((u+1+h:Int):Rat):=by grind
  exact⟨Rat.intCast_lt_intCast.1 k3,iM.1 k5⟩
 refine⟨fun hb=>?_,fun hb=>?_⟩
 ·rw[if_neg hb] at r1 r2
  have:=key (Re.of b*Re.rt c) t (t+1) rfl r1 r2
  omega
 ·rw[if_pos hb] at r1 r2
  have:=key (Re.of b*Re.rt c) (-(t+1)) (-t) rfl (by
   refine lk (fun k=>?_) r2
   simp only[aI,aR,bc,ri];grind) (by
   refine lk (fun k=>?_) r1
   simp only[aI,aR,bc,ri];grind)
  omega
theorem Wl (hv:Vl b c) (m:Int):(m≤oX a b c→ ¬bF (a-(m:Rat)) b c<0)∧(oX a b c<m→bF (a-(m:Rat)) b c<0):=by
 have f1:cD (Re.of ((oX a b c:Int):Rat)) (aB a b c):=(uz hv.c0).1
 have f2:=vn (x:=a) (y:=b) hv.c0 hv.v
 rw[uj hv.c0]
 refine⟨fun h=>?_,fun h=>?_⟩
 ·have h1:0≤aT (aB a b c-Re.of (m:Rat)):=ex (qf h) f1
  omega
 ·have h1:aT (Re.of (m:Rat)-aB a b c)=1:=by
   rw[show Re.of (m:Rat)-aB a b c=(Re.of (m:Rat)-Re.of ((oX a b c+1:Int):Rat))+(Re.of ((oX a b c+1:Int):Rat)-aB a b c) from br fun k=>by simp only[aI,aQ];grind]
   exact jR (qf (show oX a b c+1≤m by omega)) f2
  rw[eM];omega
theorem xg (ha:Rz 160000 a) (hb:Rz 160000 b) (hc:Rz 160000 c) (hv:Vl b c):Ok Tryz.prog 337 [.a (cR a++cR b++cR c)] [dR ((oX a b c:Int):Rat)]:=by
 obtain⟨n1,n2⟩:=U9 (a:=a) hv
 have hF: ∀m:Int,bF (a-(m:Rat)) b c<0↔oX a b c<m:=fun m=>⟨fun h=>Int.not_le.1 fun q=>(Wl (a:=a) hv m).1 q h,(Wl (a:=a) hv m).2⟩
 have su:Sz 160000 (a.num.fdiv (a.den:Int)):=ha.n.fdiv
 have st:Sz 480000 (bY ((b*b*c).num.fdiv ((b*b*c).den:Int))):=((((hb.mul hb).mul hc).n).fdiv.isq).mono (by decide)
 by_cases hb0:b<0
 ·have g:aM b 0<0:=by unfold aM;rw[if_pos hb0];decide
  exact yfl ha hb hc (fun _=>rfl) (fun h=>absurd g h) st.neg (PS _ _) ((su.addm st.neg).mono (by decide)) (by have:=n2 hb0;omega) hF
 ·have g: ¬aM b 0<0:=by unfold aM;rw[if_neg hb0];split<;>decide
  exact yfl ha hb hc (fun h=>absurd h g) (fun _=>rfl) st (PS _ _) ((su.addm st).mono (by decide)) (by have:=n1 hb0;omega) hF
end
section
variable {A B C D E F:Rat}{P Q:Int}
theorem KR (n:Int):fr (n+1) 1=(n:Rat)+1:=wg (by decide) (by rw[On,kW];have:=On;grind)
theorem OF (h:0≤m):(m:Rat)+1≠0:=by have:=Bj h;grind
theorem OX {P Q:Int}(hP:0<P) (hQ:0<Q):fr P Q≠0:=by
 have h:=gU (p:=P) hQ
 have:=pc hP
 grind
theorem Gr (n:Int) (h:0≤m):fr (n*(m+1)+1) (m+1)=(n:Rat)+1/((m:Rat)+1):=by
 rw[wj (show 0<m+1 by omega) (by decide),KR]
theorem R6 (R:Res A B C D E F P Q):Ok Tryz.prog 228 [.a (cR A++cR B++cR C),.a (cR D++cR E++cR F)] [dR (fr P Q)]:=by
 induction R with
 |whole L a0 h=>
  rw[KR]
  exact ab0 L rfl (decide_eq_true (by rw[xO L.v2.c0,←Bv,h];decide))
 | @last A B C D E F w n m L a0 h hb hz hw hm tA tB m0 mz=>
   rw[Gr n m0]
   exact abH L rfl (decide_eq_false (by rw[xO L.v2.c0,←Bv];omega)) ((xO L.v1.c0).trans hz) rfl (JJ L.v2 hb hw) tA tB hm mz (OF m0)
 | @step A B C D E F w1 w2 n P Q L a0 h hb hz hw1 hw2 R p0 q0 z ih=>
   rw[wj p0 q0]
   exact abu L rfl (decide_eq_false (by rw[xO L.v2.c0,←Bv];omega)) ((xO L.v1.c0).trans hz) rfl (JJ L.v2 hb hw2) (JJ L.v1 hz hw1) ih z (OX p0 q0)
theorem Up (X:Re):X-Re.of 0=X:=br fun k=>by simp only[aI,bc];grind
theorem mX (hz:0≤z):bF (x-0) y z=aT (aB x y z):=by rw[uj hz,Up]
theorem Lv.flA (L:Lv A B C D E F n):Ok Tryz.prog 337 [.a (cR A++cR B++cR C)] [dR (n:Rat)]:=by
 rw[L.nf];exact xg L.kA L.kB L.kC L.v1
theorem Lv.sh (L:Lv A B C D E F n):bF (A-(n:Rat)-0) B C=aT (aB A B C-Re.of (n:Rat)):=by rw[mX L.v1.c0,fY]
theorem SF (R:Res A B C D E F P Q):Ok Tryz.prog 269 [.a (cR A++cR B++cR C),.a (cR D++cR E++cR F)] [dR (fr P Q)]:=by
 induction R with
 |whole L a0 h=>
  rw[KR]
  exact Za L (mX L.v1.c0) (decide_eq_false (by omega)) (decide_eq_true (by omega)) L.flA rfl (decide_eq_true (by rw[uj L.v2.c0,←Bv,h];decide))
 | @last A B C D E F w n m L a0 h hb hz hw hm tA tB m0 mz=>
   rw[Gr n m0]
   have oT:=xg (tA.mono (by decide)) (tB.mono (by decide)) L.kF ((Rp L.v2 hw))
   rw[←hm] at oT
   exact YR L (mX L.v1.c0) (decide_eq_false (by omega)) (decide_eq_true (by omega)) L.flA rfl (decide_eq_false (by rw[uj L.v2.c0,←Bv];omega)) (L.sh.trans hz) rfl hw mz oT (OF m0)
 | @step A B C D E F w1 w2 n P Q L a0 h hb hz hw1 hw2 R p0 q0 z ih=>
   rw[wj p0 q0]
   exact Zi L (mX L.v1.c0) (decide_eq_false (by omega)) (decide_eq_true (by omega)) L.flA rfl (decide_eq_false (by rw[uj L.v2.c0,←Bv];omega)) (L.sh.trans hz) rfl hw2 hw1 ih z (OX p0 q0)
end
theorem acF (hA:Rz 330 A) (hB:Rz 330 B) (hC:Rz 330 C) (hD:Rz 330 D) (hE:Rz 330 E) (hF:Rz 330 F) (cC:0≤C) (cF:0≤F) (e1:fD (A-D) B (-E) 0 C F=n1) (g1:decide (n1≥0)=false) (ea:fD (A-0) B (-0) 0 C 0=na) (g2:decide (na<0)=true) (eb:fD (D-0) E (-0) 0 F 0=nb) (g3:decide (nb>0)=true):Ok Tryz.prog 126 [.a ((cR A++cR B++cR C)),.a ((cR D++cR E++cR F))] [dR 0,.c (.i .i64 0)]:=by
 have z0:Rz 2 (0:Rat):=dJ (by decide)
 refine eo Tryz.func126 39 [.cell 4 38,.tmp 5] rfl<|aa<|ag<|aa<|aa<|bm<|bU 2<|aU (cb rfl (cA (mG (hA.m_) (hB.m_) (hC.m_) (hD.m_) (hE.m_) (hF.m_) ((hA.sub hD).m_) cC cF) e1))<|aU (a8 (fh rfl) g1) ?_
 refine bt<|bz rfl<|aA<|aa<|ag<|ac rfl ((show Ok Tryz.prog 70 [.c (.i .i64 0)] [dR 0] from f7 (by omega) (by omega)))<|aa<|aE<|aa<|bm<|bU 2<|aU (cb rfl (cA (ew (hA.m_) (hB.m_) (hC.m_) (z0.m_) ((hA.sub z0).m_) cC) ea))<|aU (a8 (fh rfl) g2) ?_
 refine bU 3<|aU (cb rfl (cA (ew (hD.m_) (hE.m_) (hF.m_) (z0.m_) ((hD.sub z0).m_) cF) eb))<|aU (a8 (fh rfl) g3) ?_
 refine ed<|dO rfl<|aa<|ag ?_
 refine a7 ?_
 exact ah (aS aZ rfl (az ae))
theorem aak (hA:Rz 330 A) (hB:Rz 330 B) (hC:Rz 330 C) (hD:Rz 330 D) (hE:Rz 330 E) (hF:Rz 330 F) (cC:0≤C) (cF:0≤F) (e1:fD (A-D) B (-E) 0 C F=n1) (g1:decide (n1≥0)=false) (ea:fD (A-0) B (-0) 0 C 0=na) (g2:decide (na<0)=false) (eb:fD (D-0) E (-0) 0 F 0=nb) (g4:decide (nb≤0)=false) (ob:Ok Tryz.prog 228 [.a ((cR A++cR B++cR C)),.a ((cR D++cR E++cR F))] [dR z]):Ok Tryz.prog 126 [.a ((cR A++cR B++cR C)),.a ((cR D++cR E++cR F))] [dR z,.c (.i .i64 0)]:=by
 have z0:Rz 2 (0:Rat):=dJ (by decide)
 refine eo Tryz.func126 39 [.cell 4 38,.tmp 5] rfl<|aa<|ag<|aa<|aa<|bm<|bU 2<|aU (cb rfl (cA (mG (hA.m_) (hB.m_) (hC.m_) (hD.m_) (hE.m_) (hF.m_) ((hA.sub hD).m_) cC cF) e1))<|aU (a8 (fh rfl) g1) ?_
 refine bt<|bz rfl<|aA<|aa<|ag<|ac rfl ((show Ok Tryz.prog 70 [.c (.i .i64 0)] [dR 0] from f7 (by omega) (by omega)))<|aa<|aE<|aa<|bm<|bU 2<|aU (cb rfl (cA (ew (hA.m_) (hB.m_) (hC.m_) (z0.m_) ((hA.sub z0).m_) cC) ea))<|aU (a8 (fh rfl) g2) ?_
 refine ed<|bz rfl<|aa<|bm<|bU 2<|aU (cb rfl (cA (ew (hD.m_) (hE.m_) (hF.m_) (z0.m_) ((hD.sub z0).m_) cF) eb))<|aU (a8 (fh rfl) g4) ?_
 refine ed<|bz rfl<|aA<|aa<|ag ?_
 refine ac rfl (ob) ?_
 refine a7 ?_
 exact ah (aS aZ rfl (az ae))
theorem abd (hA:Rz 330 A) (hB:Rz 330 B) (hC:Rz 330 C) (hD:Rz 330 D) (hE:Rz 330 E) (hF:Rz 330 F) (cC:0≤C) (cF:0≤F) (e1:fD (A-D) B (-E) 0 C F=n1) (g1:decide (n1≥0)=false) (ea:fD (A-0) B (-0) 0 C 0=na) (g2:decide (na<0)=true) (eb:fD (D-0) E (-0) 0 F 0=nb) (g3:decide (nb>0)=false) (g4:decide (nb≤0)=true) (hz:Rz 6000000 z) (ob:Ok Tryz.prog 228 [.a ((cR (-D)++cR (-E)++cR F)),.a ((cR (-A)++cR (-B)++cR C))] [dR z]):Ok Tryz.prog 126 [.a ((cR A++cR B++cR C)),.a ((cR D++cR E++cR F))] [dR (-z),.c (.i .i64 0)]:=by
 have z0:Rz 2 (0:Rat):=dJ (by decide)
 refine eo Tryz.func126 39 [.cell 4 38,.tmp 5] rfl<|aa<|ag<|aa<|aa<|bm<|bU 2<|aU (cb rfl (cA (mG (hA.m_) (hB.m_) (hC.m_) (hD.m_) (hE.m_) (hF.m_) ((hA.sub hD).m_) cC cF) e1))<|aU (a8 (fh rfl) g1) ?_
 refine bt<|bz rfl<|aA<|aa<|ag<|ac rfl ((show Ok Tryz.prog 70 [.c (.i .i64 0)] [dR 0] from f7 (by omega) (by omega)))<|aa<|aE<|aa<|bm<|bU 2<|aU (cb rfl (cA (ew (hA.m_) (hB.m_) (hC.m_) (z0.m_) ((hA.sub z0).m_) cC) ea))<|aU (a8 (fh rfl) g2) ?_
 refine bU 3<|aU (cb rfl (cA (ew (hD.m_) (hE.m_) (hF.m_) (z0.m_) ((hD.sub z0).m_) cF) eb))<|aU (a8 (fh rfl) g3) ?_
 refine ed<|bz rfl<|aa<|bm<|bU 2<|aU (cb rfl (cA (ew (hD.m_) (hE.m_) (hF.m_) (z0.m_) ((hD.sub z0).m_) cF) eb))<|aU (a8 (fh rfl) g4) ?_
 refine ed<|dO rfl<|aa<|dC 6 [] ?_
 refine aK rfl (En (hD.m_) (hE.m_)) ?_
 refine aK rfl (En (hA.m_) (hB.m_)) ?_
 refine aK rfl (ob) ?_
 refine aK rfl (dX hz)<|a7 ?_
 exact ah (aS aZ rfl (az ae))
theorem aaX (hA:Rz 330 A) (hB:Rz 330 B) (hC:Rz 330 C) (hD:Rz 330 D) (hE:Rz 330 E) (hF:Rz 330 F) (_cC:0≤C) (_cF:0≤F) (e0:bF (A-0) B C=c0) (g0:decide (c0<0)=true) (f0:bF (D-0) E F=d0) (k0:decide (d0>0)=true):Ok Tryz.prog 269 [.a ((cR A++cR B++cR C)),.a ((cR D++cR E++cR F))] [dR 0]:=by
 have z0:Rz 2 (0:Rat):=dJ (by decide)
 have h0:Rz 6000000 (0:Rat):=dJ (by decide)
 refine eo vf 81 [.cell 4 38] rfl<|aa<|ag<|aa<|ag<|ac rfl ((show Ok Tryz.prog 18 [.c (.i .i64 1)] [dR 1] from d8 (by omega) (by omega)))<|ac rfl ((show Ok Tryz.prog 18 [.c (.i .i64 0)] [dR 0] from d8 (by omega) (by omega)))<|aa<|aa<|bm<|bU 2<|aU (cb rfl (cA (b6 (hA.m_) h0 ((hA.sub z0).m_) (hB.m_) (hC.m_)) e0))<|aU (a8 (fh rfl) g0) ?_
 refine bU 3<|aU (cb rfl (cA (b6 (hD.m_) h0 ((hD.sub z0).m_) (hE.m_) (hF.m_)) f0))<|aU (a8 (fh rfl) k0) ?_
 refine ed<|dO rfl<|aa<|ag ?_
 refine a7 ?_
 exact ah (aS aZ rfl ae)
structure Simp (a b:Re) (z:Rat):Prop where
 mem:uL a b z
 den: ∀p q:Int,0<q→uL a b (fr p q)→(z.den:Int)≤q
 near:z.den=1→z≠0→ ¬uL a b (z-((aM z 0:Int):Rat))
theorem Lz (z:Rat):(-z).den=z.den:=Rat.neg_den z
theorem TMin.simp (h:TMin (uL a b) P Q):Simp a b (fr P Q):=by
 obtain⟨e1,e2⟩:=h.den
 refine⟨h.mem,fun p q hq hm=>by rw[e2];exact(h.min p q hq hm).2,fun hd _ hm=>?_⟩
 have hp:=h.p
 have hQ:Q=1:=by rw[←e2,hd];rfl
 subst hQ
 have hf:=gU (p:=P) (q:=1) (by decide)
 rw[On,tT] at hf
 rw[hf] at hm
 have hc:aM (P:Rat) 0=1:=by rw[←cV];exact wn (pc hp)
 rw[hc,On] at hm
 have e3:fr (P-1) 1=(P:Rat)-1:=wg (by decide) (by rw[On,qE,tT,On])
 rw[←e3] at hm
 have:=(h.min (P-1) 1 (by decide) hm).1
 omega
theorem ue (x:Rat):uL (-b) (-a) x↔uL a b (-x):=by
 have h1:Re.of x- -b=b-Re.of (-x):=br fun k=>by simp only[aI,bD,bc];grind
 have h2: -a-Re.of x=Re.of (-x)-a:=br fun k=>by simp only[aI,bD,bc];grind
 unfold uL
 grind
theorem XE {p q:Int}(h:0<q):fr (-p) q= -(fr p q):=wg h (by have:=gU (p:=p) h;rw[ri];grind)
theorem Simp.neg (h:Simp (-b) (-a) z):Simp a b (-z):=by
 refine⟨(ue z).1 h.mem,fun p q hq hm=>?_,fun hd hz hm=>?_⟩
 ·rw[Lz]
  refine h.den (-p) q hq ?_
  rw[XE hq,ue,Rat.neg_neg];exact hm
 ·rw[Lz] at hd
  refine h.near hd (fun e=>hz (by rw[e];rfl)) ?_
  rw[ue]
  have e:aM (-z) 0= -aM z 0:=by
   rw[←cV,←cV,←cj]
   exact congrArg aT (br fun k=>by simp only[bD,bc])
  rw[e] at hm
  rw[show-(z-((aM z 0:Int):Rat))= -z-((-aM z 0:Int):Rat) from by rw[ri];grind]
  exact hm
theorem Vl.neg (h:Vl y z):Vl (-y) z:=⟨h.c0,fun e=>h.v fun e2=>e (by rw[e2];rfl),fun e=>h.z (by grind)⟩
section
variable {A B C D E F:Rat}
theorem BSt.start (v1:Vl B C) (v2:Vl E F) (a0:0≤aT (aB A B C)) (ab:aT (aB D E F-aB A B C)=1) (VU:cD (aB A B C) (Re.of ((pw 213:Int):Rat))) (WU:cD (aB D E F) (Re.of ((pw 213:Int):Rat)))
 (gap:cD (Re.of (1/((pw (1710+1710):Int):Rat))) (aB D E F-aB A B C)):BSt (pw 213) 1710 A B C D E F 1 0 0 1 A B D E:=by
 have p7:=db 213
 have p59:=db 1710
 have b0:0≤aT (aB D E F):=by
  rw[show aB D E F=aB A B C+(aB D E F-aB A B C) from br fun k=>by simp only[aI,aQ];grind]
  have:=jR a0 ab
  omega
 exact⟨Mob.init A B C,Mob.init D E F,v1,v2,by decide,by decide,by decide,by decide,p7,by omega,by omega,by omega,p59,a0,b0,VU,WU,.inr gap,a0,ex VU (qf (mH (by decide))),ab,.inl ⟨rfl,rfl⟩⟩
theorem XP (hA:Rz 113 A) (hB:Rz 21 B) (hC:Rz 78 C) (hD:Rz 113 D) (hE:Rz 21 E) (hF:Rz 78 F) (cC:0≤C) (cF:0≤F) (ab:aT (aB D E F-aB A B C)=1):cD (Re.of (1/((pw (1710+1710):Int):Rat))) (aB D E F-aB A B C):=by
 have e:jH (D-A) E (-B) 0 F C=aB D E F-aB A B C:=br fun k=>by simp only[jH,aB,aI,aQ,aR,bc];grind
 have h:=adN (hD.sub hA) hE hB.neg hF hC cF cC (by rw[e];exact ab)
 rw[e] at h
 exact ex (of_le (KT (by decide))) h
theorem Pe (hA:Rz 113 A) (hB:Rz 21 B) (hC:Rz 78 C) (cC:0≤C):cD (aB A B C) (Re.of ((pw 213:Int):Rat))∧cD (-(aB A B C)) (Re.of ((pw 213:Int):Rat)):=FZ hA hB hC cC (GN 113 21 78)
theorem BSt.go (hA:Rz 330 A) (hB:Rz 330 B) (hC:Rz 330 C) (hD:Rz 330 D) (hE:Rz 330 E) (hF:Rz 330 F) (S:BSt (pw 213) 1710 A B C D E F 1 0 0 1 A B D E): ∃P Q:Int,Res A B C D E F P Q∧TMin (uL (aB A B C) (aB D E F)) P Q∧Rz 6841 (fr P Q):=by
 obtain⟨P,Q,R,T⟩:=S.res hA hB hC hD hE hF (3*pw 1710).toNat (by have:=db 1710;omega)
 obtain⟨t1,t2⟩:=T.bound S.v1 S.au S.gap
 have t3:pw (1710+1710+1)≤pw (1710+1710+(1710+1710)+1):=mH (by decide)
 exact⟨P,Q,R,T,T.rz t1 (Int.lt_of_lt_of_le t2 t3)⟩
theorem Tf (T:TMin (uL (-b) (-a)) P Q) (T2:TMin (uL (a-Re.of (n:Rat)) (b-Re.of (n:Rat))) P2 Q2) (a0:cD (Re.of (n:Rat)) a) (b1:cD b (Re.of ((n+1:Int):Rat))): -(fr P Q)=(n:Rat)+fr P2 Q2:=by
 have sh: ∀x:Rat,uL (a-Re.of (n:Rat)) (b-Re.of (n:Rat)) x↔uL a b ((n:Rat)+x):=by
  intro x
  have h1:Re.of x-(a-Re.of (n:Rat))=Re.of ((n:Rat)+x)-a:=br fun k=>by simp only[aI,bc];grind
  have h2:b-Re.of (n:Rat)-Re.of x=b-Re.of ((n:Rat)+x):=br fun k=>by simp only[aI,bc];grind
  unfold uL
  rw[h1,h2]
 have hq:=T.q
 have hq2:=T2.q
 have f1:=gU (p:=P) hq
 have f2:=gU (p:=P2) hq2
 have e2:fr (-(n*Q2)-P2) Q2= -((n:Rat)+fr P2 Q2):=wg hq2 (by rw[qE,ri,f8,←f2];grind)
 have e1:fr (-P-n*Q) Q= -(fr P Q)-(n:Rat):=wg hq (by rw[qE,ri,f8,←f1];grind)
 have m2:uL (-b) (-a) (fr (-(n*Q2)-P2) Q2):=by
  rw[e2,ue,Rat.neg_neg]
  exact(sh _).1 T2.mem
 have m1:uL (a-Re.of (n:Rat)) (b-Re.of (n:Rat)) (fr (-P-n*Q) Q):=by
  rw[e1,sh,show(n:Rat)+(-(fr P Q)-(n:Rat))= -(fr P Q) by grind]
  exact(ue _).1 T.mem
 have g1:=(T.min _ _ hq2 m2).2
 have g2:=(T2.min _ _ hq m1).2
 have hQ:Q2=Q:=by omega
 subst hQ
 by_cases h1:Q2=1
 ·exfalso
  subst h1
  obtain⟨i1,i2⟩:=(sh _).1 T2.mem
  have k1:=qq a0 i1
  rw[On,tT] at f2
  rw[f2] at k1 i2
  have k2:((n+P2:Int):Rat)≤((n+1:Int):Rat):=by
   rw[kW]
   exact gl (ex (by unfold cD;omega) b1)
  have k3:=fI.1 k2
  have k4:((n:Int):Rat)<((n+P2:Int):Rat):=by grind
  have k5:=iM.1 k4
  have k6:P2=1:=by omega
  subst k6
  have k7:0≤aT (Re.of ((n:Rat)+((1:Int):Rat))-b):=by
   rw[←kW];exact b1
  rw[eM,i2] at k7
  omega
 ·have hc: ∀x y z:Rat,uL (-b) (-a) x→uL (-b) (-a) y→x≤z→z≤y→uL (-b) (-a) z:=by
   intro x y z hx hy hxz hzy
   refine⟨?_,?_⟩
   ·rw[show Re.of z- -b=(Re.of z-Re.of x)+(Re.of x- -b) from br fun k=>by simp only[aI,aQ];grind]
    exact jR (of_le hxz) hx.1
   ·rw[show-a-Re.of z=(Re.of y-Re.of z)+(-a-Re.of y) from br fun k=>by simp only[aI,aQ];grind]
    exact jR (of_le hzy) hy.2
  have hk:=No hc (by omega) T.mem m2 fun p q hq hm=>(T.min p q hq hm).2
  rw[hk,e2,Rat.neg_neg]
theorem K3 {z:Int}(hb:aT (b-Re.of (z:Rat))=1) (hl: ∀k:Int,aT (b-Re.of (k:Rat))=1→k≤z) (ha:aT (Re.of (z:Rat)-a)=1) (T:TMin (uL (-b) (-a)) P Q): -(fr P Q)=(z:Rat):=by
 have e:fr (-z) 1= -(z:Rat):=wg (by decide) (by rw[On,ri,tT])
 obtain⟨m1,m2⟩:=T.min (-z) 1 (by decide) (by rw[e,ue,Rat.neg_neg];exact⟨ha,hb⟩)
 have hq:=T.q
 have hQ:Q=1:=by omega
 subst hQ
 have hf:=gU (p:=P) (q:=1) (by decide)
 rw[On,tT] at hf
 have hm:=(ue _).1 T.mem
 rw[hf,←ri] at hm
 have:=hl _ hm.2
 grind
theorem rz8 (h1: -pw 213≤n+1) (h2:n≤0):Sz 214 n:=by
 have h3:pw 213+1<pw 214:=BO 213
 exact⟨by omega,by omega⟩
theorem SK (L:Lv A B C D E F n) (aN:aT (aB A B C)<0) (bN:aT (aB D E F)≤0) (hb:aT (aB D E F-Re.of ((n+1:Int):Rat))≤0) (R:Res (A-(n:Rat)) B C (D-(n:Rat)) E F P2 Q2) (x1:aT (Re.of ((n+1:Int):Rat)-aB A B C)=1):
 Ok Tryz.prog 269 [.a (cR A++cR B++cR C),.a (cR D++cR E++cR F)] [dR ((n:Rat)+fr P2 Q2)]:=by
 have c0:((0:Int):Rat)=0:=rfl
 have nz: ∀ {k:Int},Lv (A-(n:Rat)) B C (D-(n:Rat)) E F k→0≤aT (aB (A-(n:Rat)) B C)→k=0:=by
  intro k L2 a0
  have f1:cD (Re.of ((oX (A-(n:Rat)) B C:Int):Rat)) (aB (A-(n:Rat)) B C):=(uz L2.v1.c0).1
  have f2:=vn (x:=A-(n:Rat)) (y:=B) L2.v1.c0 L2.v1.v
  rw[←L2.nf] at f1 f2
  have k1:=qq (n:=0) (xK a0) f2
  have k2:=iM.1 k1
  have x2:aT (Re.of ((1:Int):Rat)-aB (A-(n:Rat)) B C)=1:=by
   rw[show Re.of ((1:Int):Rat)-aB (A-(n:Rat)) B C=Re.of ((n+1:Int):Rat)-aB A B C from br fun k=>by
    simp only[aB,aI,aQ,aR,bc,kW];grind];exact x1
  have k3:=qq f1 x2
  have k4:=iM.1 k3
  omega
 have eD:D-(n:Rat)-((0:Int):Rat)=D-(n:Rat):=by rw[c0];grind
 have eA:A-(n:Rat)-((0:Int):Rat)=A-(n:Rat):=by rw[c0];grind
 have o0:Re.of ((0:Int):Rat)=Re.of 0:=rfl
 have hg:decide (bF (D-((n:Rat)+1)) E F>0)=false:=decide_eq_false (by rw[uj L.v2.c0,←Bv];omega)
 cases R with
 |whole L2 a0 h=>
  exfalso
  have e:=nz L2 a0
  subst e
  rw[show aB (D-(n:Rat)) E F-Re.of ((0+1:Int):Rat)=aB D E F-Re.of ((n+1:Int):Rat) from br fun k=>by
   simp only[aB,aI,aQ,aR,bc,kW,c0];grind] at h
  omega
 | @last _ _ _ _ _ _ w k m L2 a0 h hbn hz hw hm tA tB m0 mz=>
   have e:=nz L2 a0
   subst e
   rw[eD] at hw hm tA
   rw[o0,Up] at hz
   have oT:=xg (tA.mono (by decide)) (tB.mono (by decide)) L.kF (Rp L.v2 hw)
   rw[←hm] at oT
   rw[Gr 0 m0,c0,Rat.zero_add]
   exact Z3 L (mX L.v1.c0) (decide_eq_true aN) (decide_eq_false (by omega)) (mX L.v2.c0) (decide_eq_false (by omega)) L.flA rfl hg (L.sh.trans (by rw[←fY,hz])) (d:=0) rfl hw mz oT (OF m0)
 | @step _ _ _ _ _ _ w1 w2 k P Q L2 a0 h hbn hz hw1 hw2 R p0 q0 z=>
   have e:=nz L2 a0
   subst e
   rw[eD] at hw2 R
   rw[eA] at hw1 R
   rw[o0,Up] at hz
   rw[wj p0 q0,c0,Rat.zero_add]
   exact Zz L (mX L.v1.c0) (decide_eq_true aN) (decide_eq_false (by omega)) (mX L.v2.c0) (decide_eq_false (by omega)) L.flA rfl hg (L.sh.trans (by rw[←fY,hz])) (d:=1) rfl hw2 hw1 (SF R) z (OX p0 q0)
theorem PR (hA:Rz 113 A) (hB:Rz 21 B) (hC:Rz 78 C) (hD:Rz 113 D) (hE:Rz 21 E) (hF:Rz 78 F) (v1:Vl B C) (v2:Vl E F) (ab:aT (aB D E F-aB A B C)=1):
 ∃z:Rat,Rz 6841 z∧Ok Tryz.prog 126 [.a (cR A++cR B++cR C),.a (cR D++cR E++cR F)] [dR z,.c (.i .i64 0)]∧
  Ok Tryz.prog 269 [.a (cR A++cR B++cR C),.a (cR D++cR E++cR F)] [dR z]∧Simp (aB A B C) (aB D E F) z:=by
 have mA:Rz 330 A:=hA.mono (by decide)
 have mB:Rz 330 B:=hB.mono (by decide)
 have mC:Rz 330 C:=hC.mono (by decide)
 have mD:Rz 330 D:=hD.mono (by decide)
 have mE:Rz 330 E:=hE.mono (by decide)
 have mF:Rz 330 F:=hF.mono (by decide)
 have gap:=XP hA hB hC hD hE hF v1.c0 v2.c0 ab
 obtain⟨uA,lA⟩:=Pe hA hB hC v1.c0
 obtain⟨uD,lD⟩:=Pe hD hE hF v2.c0
 have e1:fD (A-D) B (-E) 0 C F=aT (aB A B C-aB D E F):=nP v1.c0 v2.c0
 have g1:decide (aT (aB A B C-aB D E F)≥0)=false:=decide_eq_false (by rw[eM,ab];decide)
 have ea:fD (A-0) B (-0) 0 C 0=aT (aB A B C):=by rw[xO v1.c0,Up]
 have eb:fD (D-0) E (-0) 0 F 0=aT (aB D E F):=by rw[xO v2.c0,Up]
 by_cases aN:aT (aB A B C)<0
 ·by_cases bP:aT (aB D E F)>0
  ·--0 lies between
   have i1:uL (aB A B C) (aB D E F) 0:=by
    refine⟨?_,?_⟩
    ·rw[eM,Up];have:=bJ (aB A B C);omega
    ·rw[Up];have:=bJ (aB D E F);omega
   exact⟨0,dJ (by decide),acF mA mB mC mD mE mF v1.c0 v2.c0 e1 g1 ea (decide_eq_true aN) eb (decide_eq_true bP),aaX mA mB mC mD mE mF v1.c0 v2.c0 (mX v1.c0) (decide_eq_true aN) (mX v2.c0) (decide_eq_true bP),⟨i1,fun p q hq _=>by rw[Rat.zero_den];exact hq,fun _ h _=>h rfl⟩⟩
  ·--both are not positive
   have bN:aT (aB D E F)≤0:=by omega
   have nb0:0≤aT (aB (-D) (-E) F):=by rw[jA,cj];omega
   have nab:aT (aB (-A) (-B) C-aB (-D) (-E) F)=1:=by
    rw[jA,jA,show-(aB A B C)- -(aB D E F)=aB D E F-aB A B C from br fun k=>by simp only[aI,bD];grind];exact ab
   have ngap:cD (Re.of (1/((pw (1710+1710):Int):Rat))) (aB (-A) (-B) C-aB (-D) (-E) F):=by
    rw[jA,jA,show-(aB A B C)- -(aB D E F)=aB D E F-aB A B C from br fun k=>by simp only[aI,bD];grind];exact gap
   obtain⟨P,Q,R,T,z⟩:=(BSt.start v2.neg v1.neg nb0 nab (by rw[jA];exact lD) (by rw[jA];exact lA) ngap).go mD.neg mE.neg mF mA.neg mB.neg mC
   rw[jA,jA] at T
   have oP:=abd mA mB mC mD mE mF v1.c0 v2.c0 e1 g1 ea (decide_eq_true aN) eb (decide_eq_false bP) (decide_eq_true bN) (z.mono (by decide)) (R6 R)
   refine⟨-(fr P Q),z.neg,oP,?_,T.simp.neg⟩
   have f1:cD (Re.of ((oX A B C:Int):Rat)) (aB A B C):=(uz v1.c0).1
   have f2:=vn (x:=A) (y:=B) v1.c0 v1.v
   have hn1:oX A B C≤0:=by
    have h0:cD (aB A B C) (Re.of ((0:Int):Rat)):=by
     show 0≤aT (Re.of 0-aB A B C)
     rw[eM,Up];omega
    exact fI.1 (gl (ex f1 h0))
   have hn2: -pw 213≤oX A B C+1:=by
    have h0:cD (Re.of ((-pw 213:Int):Rat)) (aB A B C):=by
     refine lk (fun k=>?_) lA
     simp only[aI,bD,bc,ri];grind
    have:=iM.1 (qq h0 f2)
    omega
   have nz:=rz8 hn2 hn1
   have L:Lv A B C D E F (oX A B C):=⟨hA.mono (by decide),hB.mono (by decide),mC,hD.mono (by decide),hE.mono (by decide),mF,v1,v2,ab,rfl,nz.mono (by decide)⟩
   generalize oX A B C=n at*
   by_cases hb:aT (aB D E F-Re.of ((n+1:Int):Rat))=1
   ·have hg:decide (bF (D-((n:Rat)+1)) E F>0)=true:=decide_eq_true (by rw[uj v2.c0,←Bv,hb];decide)
    have q1:cD (Re.of ((oX D E F:Int):Rat)) (aB D E F):=(uz v2.c0).1
    have q2:=vn (x:=D) (y:=E) v2.c0 v2.v
    have hm1:n+1<oX D E F+1:=by
     have h0:cD (Re.of ((n+1:Int):Rat)) (aB D E F):=by unfold cD;omega
     exact iM.1 (qq h0 q2)
    have hm2:oX D E F≤0:=by
     have h0:cD (aB D E F) (Re.of ((0:Int):Rat)):=by
      show 0≤aT (Re.of 0-aB D E F)
      rw[eM,Up];omega
     exact fI.1 (gl (ex q1 h0))
    have oT:Ok Tryz.prog 337 [.a (cR D++cR E++cR F)] [dR ((oX D E F:Int):Rat)]:=xg L.kD L.kE L.kF v2
    generalize oX D E F=m at*
    have mz:Sz 3421 m:=(rz8 (by omega) hm2).mono (by decide)
    have up: ∀k:Int,n+1≤k→aT (Re.of (k:Rat)-aB A B C)=1:=by
     intro k hk
     rw[show Re.of (k:Rat)-aB A B C=(Re.of (k:Rat)-Re.of ((n+1:Int):Rat))+(Re.of ((n+1:Int):Rat)-aB A B C) from br fun k=>by simp only[aI,aQ];grind]
     exact jR (qf hk) f2
    by_cases he:aT (aB D E F-Re.of (m:Rat))=0
    ·have hlt:n+1<m:=by
      have h0:cD (aB D E F) (Re.of (m:Rat)):=by unfold cD;rw[eM];omega
      have h1:aT (Re.of (m:Rat)-Re.of ((n+1:Int):Rat))=1:=by
       rw[show Re.of (m:Rat)-Re.of ((n+1:Int):Rat)=(Re.of (m:Rat)-aB D E F)+(aB D E F-Re.of ((n+1:Int):Rat)) from br fun k=>by simp only[aI,aQ];grind]
       exact jR h0 hb
      exact iM.1 (qq (gZ _) h1)
     have eI:=K3 (z:=m-1) (b:=aB D E F) (a:=aB A B C) (by
      rw[show aB D E F-Re.of ((m-1:Int):Rat)=(aB D E F-Re.of (m:Rat))+Re.of 1 from br fun k=>by simp only[aI,aQ,bc,qE,On];grind]
      exact jR (by omega) (wn (by decide))) (fun k hk=>by
       have h1:aT (Re.of (m:Rat)-Re.of (k:Rat))=1:=by
        rw[show Re.of (m:Rat)-Re.of (k:Rat)=(Re.of (m:Rat)-aB D E F)+(aB D E F-Re.of (k:Rat)) from br fun k=>by simp only[aI,aQ];grind]
        exact jR (by rw[eM];omega) hk
       have:=iM.1 (qq (gZ _) h1)
       omega) (up _ (by omega)) T
     rw[eI,qE,On]
     exact Tx L (mX v1.c0) (decide_eq_true aN) (decide_eq_false (by omega)) (mX v2.c0) (decide_eq_false (by omega)) L.flA rfl hg mz oT ((uj v2.c0).trans he) rfl
    ·have hp:aT (aB D E F-Re.of (m:Rat))=1:=by
      have h0:0≤aT (aB D E F-Re.of (m:Rat)):=q1
      have:=bJ (aB D E F-Re.of (m:Rat))
      omega
     have eI:=K3 (z:=m) (b:=aB D E F) (a:=aB A B C) hp (fun k hk=>by
      have h0:cD (Re.of (k:Rat)) (aB D E F):=by unfold cD;omega
      have:=iM.1 (qq h0 q2)
      omega) (up _ (by omega)) T
     rw[eI]
     exact Vm L (mX v1.c0) (decide_eq_true aN) (decide_eq_false (by omega)) (mX v2.c0) (decide_eq_false (by omega)) L.flA rfl hg mz oT ((uj v2.c0).trans hp) rfl
   ·have hb':aT (aB D E F-Re.of ((n+1:Int):Rat))≤0:=by have:=bJ (aB D E F-Re.of ((n+1:Int):Rat));omega
    have b1:cD (aB D E F) (Re.of ((n+1:Int):Rat)):=by unfold cD;rw[eM];omega
    have sA:Rz 330 (A-(n:Rat)):=(hA.sub (eG nz (by decide))).mono (by decide)
    have sD:Rz 330 (D-(n:Rat)):=(hD.sub (eG nz (by decide))).mono (by decide)
    have one7:cD (Re.of 1) (Re.of ((pw 213:Int):Rat)):=by
     have:=qf (db 213)
     exact this
    have xab:aT (aB (D-(n:Rat)) E F-aB (A-(n:Rat)) B C)=1:=by
     rw[fY,fY,show aB D E F-Re.of (n:Rat)-(aB A B C-Re.of (n:Rat))=aB D E F-aB A B C from br fun k=>by simp only[aI];grind];exact ab
    have xgap:cD (Re.of (1/((pw (1710+1710):Int):Rat))) (aB (D-(n:Rat)) E F-aB (A-(n:Rat)) B C):=by
     rw[fY,fY,show aB D E F-Re.of (n:Rat)-(aB A B C-Re.of (n:Rat))=aB D E F-aB A B C from br fun k=>by simp only[aI];grind];exact gap
    have x0:0≤aT (aB (A-(n:Rat)) B C):=by rw[fY];exact f1
    have y1:cD (aB (D-(n:Rat)) E F) (Re.of 1):=by rw[fY];exact Cw (n:=n) b1 (gZ _)
    have a1:cD (aB (A-(n:Rat)) B C) (Re.of 1):=ex (by unfold cD;omega) y1
    obtain⟨P2,Q2,R2,T2,_⟩:=(BSt.start v1 v2 x0 xab (ex a1 one7) (ex y1 one7) xgap).go sA mB mC sD mE mF
    rw[fY,fY] at T2
    rw[Tf T T2 f1 b1]
    exact SK L aN bN hb' R2 f2
 ·--both are not negative
  have a0:0≤aT (aB A B C):=by omega
  have b0: ¬aT (aB D E F)≤0:=by
   have h:=jR a0 ab
   rw[show aB A B C+(aB D E F-aB A B C)=aB D E F from br fun k=>by simp only[aI,aQ];grind] at h
   omega
  obtain⟨P,Q,R,T,z⟩:=(BSt.start v1 v2 a0 ab uA uD gap).go mA mB mC mD mE mF
  exact⟨fr P Q,z,aak mA mB mC mD mE mF v1.c0 v2.c0 e1 g1 ea (decide_eq_false aN) eb (decide_eq_false b0) (R6 R),SF R,T.simp⟩
end
theorem aa0 (g:GP p):Vl p.b1 (zc p.b1 p.c):=by
 have hv:=g.v
 unfold uU at hv
 refine⟨kZ (cm g),fun hb=>?_,fun hb=>F6 hb⟩
 rw[oY hb]
 grind
theorem LJ {c:Cv}(vc:CvV c) (hm:c.mono=true) (nv:c.vert=false):cx c.p c.q<0:=by
 cases c with
 |seg l f t=>
  have h1:cP f t<0:=by
   have h:(!decide (cP f t≥0))=true:=hm
   grind
  have h2:cx f t≠0:=by
   have h:(cx f t==0)=false:=nv
   grind
  have:=Zl h2
  show cx f t<0
  omega
 |arc k w f t=>
  have h:=Nv vc.g.1 vc.pos ⟨vc.g.2.1,b5.1 vc.sp⟩ ⟨vc.g.2.2,b5.1 vc.sq⟩ hm
  have ha:=ef (cm vc.g.2.1) (cm vc.g.2.2)
  show cx f t<0
  cases w with
  |true=>have h:=h.2.2;omega
  |false=>have h:=h.2.2;omega
theorem Ww {c:Cv}(nc:c.vert=false) (h1:mO c.p x<0) (h2:0<mO c.q x):yu c x=true:=by
 unfold yu
 grind
section
variable {p q:Pt}(gp:GP p) (gq:GP q)
include gp gq
theorem Qs (h:cx p q≤0) (h2:0<mO p x):0<mO q x:=by
 rw[oc (cm gp) (cm gq),eM] at h
 rw[oH (cm gp)] at h2
 rw[oH (cm gq),show pX q-Re.of x=(pX q-pX p)+(pX p-Re.of x) from br fun k=>by simp only[aI,aQ];grind,jR (by omega) (by have:=bJ (pX p-Re.of x);omega)]
 grind
theorem Pp (h:cx p q≤0) (h2:mO q x<0):mO p x<0:=by
 rw[oc (cm gp) (cm gq),eM] at h
 rw[oH (cm gq),eM] at h2
 rw[oH (cm gp),eM,show Re.of x-pX p=(pX q-pX p)+(Re.of x-pX q) from br fun k=>by simp only[aI,aQ];grind,jR (by omega) (by have:=bJ (Re.of x-pX q);omega)]
 grind
theorem W8:cx q p= -cx p q:=ef (cm gp) (cm gq)
end
theorem JA {c:Cv}(vc:CvV c) (hx:Rz 6841 x) (hb:yu c x=true):(Rz 40000 (xr c x).a2∧Rz 40000 (xr c x).b2∧Rz 40000 (xr c x).c)∧uU (xr c x).b1 (xr c x).b2 (xr c x).c=true:=by
 unfold yu at hb
 rw[dL,dL] at hb
 have v0:uU 0 0 0=true:=by unfold uU;rw[if_pos ⟨rfl,rfl⟩];exact decide_eq_true rfl
 cases c with
 |seg l f t=>
  have sf:Bw l f=0:=by have:=vc.sp;simpa [Cv.supp,Cv.p] using this
  have st:Bw l t=0:=by have:=vc.sq;simpa [Cv.supp,Cv.q] using this
  have hv:=Km vc.g.1 vc.g.2.1 vc.g.2.2 sf st vc.ne
  have hb0:l.b≠0:=fun e=>by
   have h1:(!(cx f t==0))=true:=hb.1
   rw[hv.2 e] at h1;cases h1
  exact⟨⟨((vc.g.1.c.sub (vc.g.1.a.mul hx)).div vc.g.1.b hb0).mono (by decide),dJ (by decide),dJ (by decide)⟩,v0⟩
 |arc k w f t=>
  have h0:=Ct ⟨vc.g.2.1,b5.1 vc.sp⟩ ⟨vc.g.2.2,b5.1 vc.sq⟩ (of_decide_eq_true hb.2.1) (of_decide_eq_true hb.2.2)
  have hk:GK k:=vc.g.1
  have hs:Rz 14000 (mK k x):=(hk.q.sub ((hx.sub hk.x).mul (hx.sub hk.x))).mono (by decide)
  cases e:je (mK k x) with
  |true=>
   rw[show xr (.arc k w f t) x=⟨x+0*rt (mK k x),0,k.y+sW w*rt (mK k x),0,0⟩ from if_pos e]
   exact⟨⟨(hk.y.add ((xA w).mul hs.rt)).mono (by decide),dJ (by decide),dJ (by decide)⟩,v0⟩
  |false=>
   rw[show xr (.arc k w f t) x=⟨x,0,k.y,sW w,mK k x⟩ from if_neg (by rw[e];decide)]
   refine⟨⟨hk.y.mono (by decide),(xA w).mono (by decide),hs.mono (by decide)⟩,?_⟩
   have hp:0<mK k x:=by have:=QH e;grind
   show uU 0 (sW w) (mK k x)=true
   unfold uU
   rw[if_neg (fun g=>Lx w g.2),e,decide_eq_true hp];rfl
theorem acG {c:Cv}(vc:CvV c) (hx:Rz 6841 x) (hb:yu c x=true):Ok Tryz.prog 129 [.a ((cR x++cR 0++cR 0)),.a (We c x)] [.a (aj (xr c x)),.c (.i .i64 0)]:=by
 obtain⟨⟨_,_,h3⟩,hv⟩:=JA vc hx hb
 obtain⟨ea,eb⟩:=QR c x
 rw[VN]
 exact Fo (xX (dJ (by decide)) ((ij h3 (by decide)).mono (by decide)) (fun h=>h.1 rfl)) ea eb rfl rfl (QC hv eb)
theorem Y5 {c:Cv}(vc:CvV c) (hx:Rz 6841 x) (hb:yu c x=true):Ok Tryz.prog 270 [.a ((cR x++cR 0++cR 0)),.a (We c x)] [.a (aj (xr c x)),.c (.i .i64 0)]:=by
 obtain⟨⟨_,_,h3⟩,hv⟩:=JA vc hx hb
 obtain⟨ea,eb⟩:=QR c x
 rw[VN]
 exact Fo (JD (dJ (by decide)) ((ij h3 (by decide)).mono (by decide)) (fun h=>h.1 rfl)) ea eb rfl rfl (QC hv eb)
theorem abe (vc:CvV (.arc k false f t)) (ea:(Cv.arc k false f t).inner (jT k)=false) (eb:(Cv.arc k false f t).inner (jE k)=false) (hx:Rz 6841 x) (bb:yu (Cv.arc k false f t).fwd x=true) (hB:Ok Tryz.prog 126 [.a ((cR (((Cv.arc k false f t).fwd.p).a1)++cR (((Cv.arc k false f t).fwd.p).b1)++cR (zc ((Cv.arc k false f t).fwd.p).b1 ((Cv.arc k false f t).fwd.p).c))),.a ((cR (((Cv.arc k false f t).fwd.q).a1)++cR (((Cv.arc k false f t).fwd.q).b1)++cR (zc ((Cv.arc k false f t).fwd.q).b1 ((Cv.arc k false f t).fwd.q).c)))] [dR x,.c (.i .i64 0)]):Ok Tryz.prog 43 [.a (([.b true]++nr++aV k++[.b false]++aj f++aj t))] [.a (aj (((xr (Cv.arc k false f t).fwd x))))]:=by
 have vc9:CvV (Cv.arc k false f t).fwd:=Ha vc
 refine eo Tryz.func43 48 [.cell 2 47] rfl<|aa<|ag<|aa<|ag ?_
 refine ar (gE bO rfl) ?_
 refine ac rfl (abc vc ea eb) ?_
 refine ar (bI (us:=aC (Cv.arc k false f t).fwd++[]) gP rfl rfl (by simp) (am ai _) (iY ai (j:=0) (eB (d:=aX) (show 0<([(Cv.arc k false f t).fwd]:List Cv).length from Nat.one_pos))) rfl) ?_
 refine ar (iK ai bO rfl)<|pu (cZ bO rfl rfl rfl (ai _) rfl rfl) ?_
 refine aa<|dC 13 [4,999999] ?_
 refine aq (ce (us:=aj ((Cv.arc k false f t).fwd).p) bq rfl rfl (mY _) rfl rfl) ?_
 refine aK rfl (qc) ?_
 refine aq (ce (us:=aj ((Cv.arc k false f t).fwd).q) bq rfl rfl (uC _) rfl rfl) ?_
 refine aK rfl (qc)<|aK rfl (hB) ?_
 refine DQ.mk<|f5 (eh aZ rfl) rfl rfl rfl rfl<|dF ?_
 refine aa<|aa<|ag<|bz rfl<|aA<|aa<|bm<|aU (kV (ai _) bO rfl)<|bU 1<|aU (cb rfl ((by have h9:=Zm vc9 (hx.m_);rw[if_pos bb] at h9;exact h9))) ?_
 refine bU 3<|rZ (jh jL rfl) rfl<|gi (cZ df rfl rfl rfl (Cd _ _) rfl rfl) ?_
 refine ed<|aa<|aa<|ag<|bz rfl<|aA<|aa<|pQ 10 [7,999999] dP (by kernel_rfl) rfl rfl<|cn 1<|ba (cb rfl (gK))<|ba (kV (Cd _ _) df rfl)<|ba (cb rfl (acG vc9 hx bb))<|cn 3<|AS (jh Ac rfl) rfl ?_
 refine f5 (eh bq rfl) rfl rfl rfl rfl<|yW<|AJ<|bt<|aa<|aa<|ag<|bz rfl<|aA<|aa<|ag ?_
 refine a7 ?_
 exact ah (aS bq rfl ae)
theorem Xe {d:Cv}(vd:CvV d) (hv:d.vert=false) (hx:Rz 6841 x) (bb:yu d x=true) (hB:Ok Tryz.prog 269 [.a ((cR d.p.a1++cR d.p.b1++cR (zc d.p.b1 d.p.c))),.a ((cR d.q.a1++cR d.q.b1++cR (zc d.q.b1 d.q.c)))] [dR x]):Ok Tryz.prog 148 [.a (aC d)] [.a (aj (xr d x))]:=by
 refine eo Tryz.func148 51 [.cell 2 47] rfl<|aa<|ag<|aa<|aa<|ag ?_
 refine ar (kV (ai _) bO rfl) ?_
 refine ac rfl ((by have h9:=Yn vd;rw[hv] at h9;exact h9)) ?_
 refine bz rfl<|aA<|aa<|dC 8 [] ?_
 refine aq (ce (us:=aj d.p) bq rfl rfl (mY _) rfl rfl) ?_
 refine aK rfl (pd) ?_
 refine aq (ce (us:=aj d.q) bq rfl rfl (uC _) rfl rfl) ?_
 refine aK rfl (pd)<|aK rfl (hB)<|aa<|bm<|aU (kV (ai _) bO rfl)<|bU 1<|aU (cb rfl ((by have h9:=Y4 vd (hx.m_);rw[if_pos bb] at h9;exact h9))) ?_
 refine bU 3<|rZ (jh jL rfl) rfl<|gi (cZ df rfl rfl rfl (Cd _ _) rfl rfl) ?_
 refine ed<|aa<|pQ 10 [9,999999] dP (by kernel_rfl) rfl rfl<|cn 1<|ba (cb rfl (fu))<|ba (kV (Cd _ _) df rfl)<|ba (cb rfl (Y5 vd hx bb))<|cn 3<|AS (jh Ac rfl) rfl<|f5 (eh bq rfl) rfl rfl rfl rfl<|yW<|AJ<|bt<|aa ?_
 refine ag ?_
 refine a7 ?_
 exact ah (aS bq rfl ae)
theorem ZK {c:Cv}(vc:CvV c) (hv:c.fwd.vert=false) (hx:Rz 6841 x) (bb:yu c.fwd x=true) (hB:Ok Tryz.prog 269 [.a ((cR c.fwd.p.a1++cR c.fwd.p.b1++cR (zc c.fwd.p.b1 c.fwd.p.c))),.a ((cR c.fwd.q.a1++cR c.fwd.q.b1++cR (zc c.fwd.q.b1 c.fwd.q.c)))] [dR x]):Ok Tryz.prog 56 [.a (aC c)] [.a (aj (xr c.fwd x))]:=by
 have v9:CvV c.fwd:=Ha vc
 have h16:=Xe v9 hv hx bb hB
 refine bX Tryz.func56 rfl<|ar (ce (us:=aj c.p) bq rfl rfl (mY _) rfl rfl) ?_
 refine ar (ce (us:=aj c.q) bq rfl rfl (uC _) rfl rfl) ?_
 refine ac rfl (AI (iT vc.g) (sv vc.g)) ?_
 refine dk rfl (fun hc1=>?_) (fun hc1=>?_)
 ·have g0:=Mj hc1
  refine ar (kV (ai _) bO rfl)<|ac rfl (YK vc) ?_
  refine pu (cZ bO rfl rfl rfl (ai _) (ai _) rfl) ?_
  refine ar (kV (ai _) bO rfl)<|ac rfl ((Eq.subst (motive:=fun z=>Ok _ _ [.a z] _) (congrArg aC g0) h16)) ?_
  exact ah (aS bq rfl ae)
 ·have g0:=MM hc1
  refine ar (kV (ai _) bO rfl)<|ac rfl ((Eq.subst (motive:=fun z=>Ok _ _ [.a z] _) (congrArg aC g0) h16)) ?_
  exact ah (aS bq rfl ae)
def hvA (k:Ci):Cv:=.arc k false (jT k) (jE k)
def hvB (k:Ci):Cv:=.arc k false (jE k) (jT k)
structure Sim (k:Ci) (P R:List Cv):Prop where
 len:P.length=R.length
 two:2≤P.length
 at_: ∀i,i<P.length→ ∃a b a' b':Pt,P.getD i aX=.arc k false a b∧R.getD i aX=.arc k false a' b'∧(OnK k a∧OnK k b)∧(OnK k a'∧OnK k b')∧cP a a'=0∧cP b b'=0∧cP a b≠0∧
  (∀x,x=jT k∨x=jE k→(Cv.arc k false a b).inner x=false∧(Cv.arc k false a' b').inner x=false)
 nxt: ∀i,i<P.length→(P.getD i aX).q=(P.getD ((i+1)%P.length) aX).p
 dis: ∀i j,i<j→j<P.length→cP (P.getD i aX).p (P.getD j aX).p≠0
section
variable {k:Ci}(hk:GK k) (h0:0<k.q)
include hk h0
theorem VZ:CvV (hvA k):=⟨⟨hk,sj hk h0,r8 hk h0⟩,h0,b5.2 (FE hk h0),b5.2 (Fi hk h0),Ws hk h0⟩
theorem V5:CvV (hvB k):=⟨⟨hk,r8 hk h0,sj hk h0⟩,h0,b5.2 (Fi hk h0),b5.2 (FE hk h0),fun e=>Ws hk h0 (nK (cm (r8 hk h0)) (cm (sj hk h0)) e)⟩
theorem ZL {x:Pt}(ox:OnK k x) (h:(hvA k).ord x (jE k)<0):lj k x=false:=by
 have hx:sB k (jT k) x (jE k)<0:=h
 have a1:=vw hk h0 ox
 have a2:=vL hk h0 ox
 have a3:=vL hk h0 (uY hk h0)
 have b1:=ef (bk ox) (bk (uY hk h0))
 have b2:=ef (bk ox) (bk (v8 hk h0))
 rw[iA,fP,fP,fP,AG h0,Ar h0,a3,AG h0,show cx x (jT k)= -(cx (jT k) x) from by omega,show cx x (jE k)= -(cx (jE k) x) from by omega,a1,a2] at hx
 rw[fP]
 revert hx
 generalize kd k x=j
 revert j
 decide
theorem YI {x:Pt}(ox:OnK k x) (h:(hvB k).ord x (jT k)<0):lj k x=true:=by
 have hx:sB k (jE k) x (jT k)<0:=h
 have a1:=vw hk h0 ox
 have a2:=vL hk h0 ox
 have a3:=vw hk h0 (v8 hk h0)
 have b1:=ef (bk ox) (bk (uY hk h0))
 have b2:=ef (bk ox) (bk (v8 hk h0))
 rw[iA,fP,fP,fP,AG h0,Ar h0,a3,Ar h0,show cx x (jT k)= -(cx (jT k) x) from by omega,show cx x (jE k)= -(cx (jE k) x) from by omega,a1,a2] at hx
 rw[fP]
 revert hx
 generalize kd k x=j
 revert j
 decide
end
theorem vY {α:Type}{d:α}{A B:List α}(h:i<A.length):(A++B).getD i d=A.getD i d:=by simp[List.getD,C4 h]
theorem SC {α:Type}{d:α}{A B:List α}:(A++B).getD (A.length+i) d=B.getD i d:=by simp[List.getD,Dd]
theorem HL {c:Cv}(vc:CvV c) (hL: ∀y∈L,GP y∧c.on y=true) {d:Cv}(hd:d∈iU c L) {x:Pt}(gx:GP x) (hx:cP c.p x=0∨cP c.q x=0):d.inner x=false:=by
 cases h:d.inner x with
 |false=>rfl
 |true=>
  obtain⟨h1,_⟩:=P5 vc hL hd gx h
  obtain⟨_,h2,h3⟩:=pZ.1 h1
  omega
structure Hlf (k:Ci) (f t:Pt) (P R:List Cv) (T T':List Pt):Prop where
 p:P=gI (.arc k false f t) T
 r:R=gI (.arc k false f t) T'
 len:T.length=T'.length
 two:2≤T.length
 eq: ∀i,i<T.length→cP (T.getD i dPt) (T'.getD i dPt)=0
 o: ∀x∈T,OnK k x
 o': ∀x∈T',OnK k x
 s:T.Pairwise fun p q=>(Cv.arc k false f t).ord p q<0
 fst:T.getD 0 dPt=f
 lst:T.getD (T.length-1) dPt=t
 v:CvV (.arc k false f t)
 inn: ∀d,d∈P∨d∈R→ ∀x,x=jT k∨x=jE k→d.inner x=false
section
variable {k:Ci}{f t:Pt}{P R:List Cv}{T T':List Pt}
theorem Hlf.lenP (h:Hlf k f t P R T T'):P.length+1=T.length:=by rw[h.p,jg];have:=h.two;omega
theorem Hlf.lenR (h:Hlf k f t P R T T'):R.length+1=T.length:=by rw[h.r,jg];have:=h.two;have:=h.len;omega
theorem Hlf.P_at (h:Hlf k f t P R T T') (hi:i<P.length):P.getD i aX=.arc k false (T.getD i dPt) (T.getD (i+1) dPt):=by
 have:=h.lenP
 have e:=Ks (.arc k false f t) (T:=T) (i:=i) (by omega)
 rw[←h.p] at e;exact e
theorem Hlf.R_at (h:Hlf k f t P R T T') (hi:i<P.length):R.getD i aX=.arc k false (T'.getD i dPt) (T'.getD (i+1) dPt):=by
 have:=h.lenP
 have e:=Ks (.arc k false f t) (T:=T') (i:=i) (by have:=h.len;omega)
 rw[←h.r] at e;exact e
theorem Hlf.lt (h:Hlf k f t P R T T') (hij:i<j) (hj:j<T.length):(Cv.arc k false f t).ord (T.getD i dPt) (T.getD j dPt)<0:=by
 have:=(List.pairwise_iff_getElem.1 h.s) i j (by omega) hj hij
 rw[List.getD,f9 (by omega),List.getD,f9 hj];exact this
theorem Hlf.ne (h:Hlf k f t P R T T') (hij:i<j) (hj:j<T.length):cP (T.getD i dPt) (T.getD j dPt)≠0:=
 se h.v.g (h.o _ (bd (by omega))).1 (h.o _ (bd hj)).1 (h.lt hij hj)
theorem Hlf.at_ (h:Hlf k f t P R T T') (hi:i<P.length): ∃a b a' b':Pt,P.getD i aX=.arc k false a b∧R.getD i aX=.arc k false a' b'∧(OnK k a∧OnK k b)∧(OnK k a'∧OnK k b')∧cP a a'=0∧cP b b'=0∧cP a b≠0∧
 (∀x,x=jT k∨x=jE k→(Cv.arc k false a b).inner x=false∧(Cv.arc k false a' b').inner x=false):=by
 have l1:=h.lenP
 have l2:=h.lenR
 have l3:=h.len
 refine⟨_,_,_,_,h.P_at hi,h.R_at hi,⟨h.o _ (bd (by omega)),h.o _ (bd (by omega))⟩,⟨h.o' _ (bd (by omega)),h.o' _ (bd (by omega))⟩,h.eq i (by omega),h.eq (i+1) (by omega),h.ne (by omega) (by omega),fun x hx=>⟨?_,?_⟩⟩
 ·rw[←h.P_at hi];exact h.inn _ (.inl (bd hi)) x hx
 ·rw[←h.R_at hi];exact h.inn _ (.inr (bd (by omega))) x hx
end
theorem Ps (hk:GK k) (h0:0<k.q) (v:CvV (.arc k false f t)) (hx: ∀x,x=jT k∨x=jE k→cP f x=0∨cP t x=0) (hL: ∀p∈L,GP p∧(Cv.arc k false f t).on p=true) (hL': ∀p∈L',GP p∧(Cv.arc k false f t).on p=true) (h12: ∀x∈L,∃y∈L',cP x y=0) (h21: ∀y∈L',∃x∈L,cP y x=0):
 ∃T T':List Pt,Hlf k f t (tX (.arc k false f t) (mu (.arc k false f t) L)) (iU (.arc k false f t) L') T T'∧T.length≤L.length+2:=by
 obtain⟨T,T',e1,e2,e3,e4,e5,e6,e7,e8,e9,_,e10,e11⟩:=Uf v hL hL' h12 h21
 refine⟨T,T',⟨e1,e2,e3,e4,e6,e7,e8,e9,e10,e11,v,fun d hd x hx2=>?_⟩,e5⟩
 have gx:GP x:=by rcases hx2 with rfl|rfl;exact sj hk h0;exact r8 hk h0
 rcases hd with hd|hd
 ·rw[Du v hL] at hd
  exact HL v (fun y hy=>hL y ((Fs v hL).2.1 y hy).2) hd gx (hx x hx2)
 ·exact HL v hL' hd gx (hx x hx2)
theorem Z4 (hk:GK k) (h0:0<k.q) {P R P2 R2:List Cv}{T T' T2 T2':List Pt}(h:Hlf k (jT k) (jE k) P R T T') (g:Hlf k (jE k) (jT k) P2 R2 T2 T2'):Sim k (P++P2) (R++R2):=by
 have l1:=h.lenP
 have l2:=g.lenP
 have m1:=h.lenR
 have m2:=g.lenR
 have n1:=h.two
 have n2:=g.two
 have lR:P.length=R.length:=by omega
 have at2: ∀i,¬i<P.length→(P++P2).getD i aX=P2.getD (i-P.length) aX:=fun i hi=>by rw[show i=P.length+(i-P.length) from by omega,SC,Nat.add_sub_cancel_left]
 have at3: ∀i,¬i<P.length→(R++R2).getD i aX=R2.getD (i-P.length) aX:=fun i hi=>by rw[show i=R.length+(i-R.length) from by omega,SC,←lR];congr 1;omega
 have kA: ∀ {i:Nat},i<P.length→lj k (T.getD i dPt)=false:=fun{i} hi=>ZL hk h0 (h.o _ (bd (by omega))) (by have:=h.lt (i:=i) (j:=T.length-1) (by omega) (by omega);rw[h.lst] at this;exact this)
 have kB: ∀ {i:Nat},i<P2.length→lj k (T2.getD i dPt)=true:=fun{i} hi=>YI hk h0 (g.o _ (bd (by omega))) (by have:=g.lt (i:=i) (j:=T2.length-1) (by omega) (by omega);rw[g.lst] at this;exact this)
 refine⟨by rw[dt,dt];omega,by rw[dt];omega,fun i hi=>?_,fun i hi=>?_,fun i j hij hj=>?_⟩
 ·rw[dt] at hi
  by_cases q:i<P.length
  ·rw[vY q,vY (by omega)];exact h.at_ q
  ·rw[at2 i q,at3 i q];exact g.at_ (by omega)
 ·rw[dt] at hi⊢
  by_cases q:i<P.length
  ·rw[vY q,h.P_at q]
   show T.getD (i+1) dPt=_
   rw[rl (by omega)]
   by_cases q2:i+1<P.length
   ·rw[vY q2,h.P_at q2];rfl
   ·rw[at2 _ q2,g.P_at (by omega)]
    show _=T2.getD (i+1-P.length) dPt
    rw[show i+1-P.length=0 from by omega,g.fst,←h.lst];congr 1;omega
  ·rw[at2 i q,g.P_at (by omega)]
   show T2.getD (i-P.length+1) dPt=_
   by_cases q2:i+1<P.length+P2.length
   ·rw[rl q2,at2 _ (by omega),g.P_at (by omega)]
    show _=T2.getD (i+1-P.length) dPt
    congr 1;omega
   ·rw[show i+1=P.length+P2.length from by omega,Nat.mod_self,vY (by omega),h.P_at (by omega)]
    show _=T.getD 0 dPt
    rw[h.fst,←g.lst];congr 1;omega
 ·rw[dt] at hj
  by_cases q:j<P.length
  ·rw[vY q,vY (by omega),h.P_at q,h.P_at (by omega)]
   exact h.ne hij (by omega)
  ·rw[at2 j q,g.P_at (by omega)]
   by_cases q2:i<P.length
   ·rw[vY q2,h.P_at q2]
    intro e
    have u1:=kA q2
    have u2:=kB (i:=j-P.length) (by omega)
    have:=Dh (cm (h.o _ (bd (by omega))).1) (cm (g.o _ (bd (by omega))).1) (show cP (T.getD i dPt) (T2.getD (j-P.length) dPt)=0 from e) k
    rw[u1,u2] at this;cases this
   ·rw[at2 i q2,g.P_at (by omega)]
    exact g.ne (by omega) (by omega)
end Go.Proofs.YtegpmhlfjkhjmaaGreat
