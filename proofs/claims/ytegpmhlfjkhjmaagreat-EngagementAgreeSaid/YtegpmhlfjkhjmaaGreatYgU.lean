/-The reference:a turn of the search. -/
import Derived.Test.YtegpmhlfjkhjmaaGreatYgT
namespace Go.Proofs.YtegpmhlfjkhjmaaGreat
open Go Go.RowKit
variable {k:Ci}{P P2 Q Q2 c c0 d d0 m m2 n n1 na nb:Int}{L L':List Pt}{i j:Nat}{f p t:Pt}{A B C D E F w1 w2 x y z:Rat}{a b:Re}
theorem uH:type_of% @Tryz.func269:=@Tryz.func269
theorem Vh (L:Lv A B C D E F n) (e0:bd (A-0) B C=c0) (g0:decide (c0<0)=false) (g1:decide (c0≥0)=true) (oA:Ok Tryz.prog 337 [.a ((cR A++cR B++cR C))] [dR (n:Rat)]) (hc:bd (D-((n:Rat)+1)) E F=c) (hg:decide (c>0)=true):Ok Tryz.prog 269 [.a ((cR A++cR B++cR C)),.a ((cR D++cR E++cR F))] [dR ((n:Rat)+1)]:=by
 have o1:Rz 6000000 (1:Rat):=n6 (by decide+kernel)
 have s1:Sz 19980000 (1:Int):=cX (by decide) (by decide) (by decide)
 have kn:Rz 6000000 (n:Rat):=L.zn.m_
 have sn:Sz 19980000 n:=L.nz.m_
 have kA:Rz 6000000 A:=L.kA.m_
 have kD:Rz 6000000 D:=L.kD.m_
 have z0:Rz 2 (0:Rat):=eK (by decide)
 have h0:Rz 6000000 (0:Rat):=eK (by decide)
 refine ex uH 81 [.cell 4 38] rfl<|ae<|ag<|ae<|ag<|ac rfl ((show Ok Tryz.prog 18 [.c (.i .i64 1)] [dR 1] from dH (by omega) (by omega)))<|ac rfl ((show Ok Tryz.prog 18 [.c (.i .i64 0)] [dR 0] from dH (by omega) (by omega)))<|ae<|ae<|bz<|bQ 2<|aW (cb rfl (bX (bU kA h0 ((L.hA.sub z0).m_) (L.kB.m_) (L.kC.m_)) e0))<|aW (aU (ew rfl) g0) ?_
 refine fL<|bn rfl<|aB<|ae<|ag ?_
 refine ac rfl (oA)<|ae<|ag ?_
 refine ac rfl (cK kn o1)<|ae<|ae<|bz<|bQ 2 ?_
 refine aW (cb rfl (bX (bU kD (L.zn1.m_) (L.dn1.m_) (L.kE.m_) (L.kF.m_)) hc)) ?_
 refine aW (aU (ew rfl) hg) ?_
 refine bD<|dG rfl<|ae<|ae<|bz<|bQ 2<|aW (cb rfl (bX (bU kA h0 ((L.hA.sub z0).m_) (L.kB.m_) (L.kC.m_)) e0))<|aW (aU (ew rfl) g1) ?_
 refine bD<|dG rfl<|ae<|ag ?_
 refine a9 ?_
 exact ah (aQ aX rfl aa)
theorem WA (L:Lv A B C D E F n) (e0:bd (A-0) B C=c0) (g0:decide (c0<0)=false) (_g1:decide (c0≥0)=true) (oA:Ok Tryz.prog 337 [.a ((cR A++cR B++cR C))] [dR (n:Rat)]) (hc:bd (D-((n:Rat)+1)) E F=c) (hg:decide (c>0)=false) (hd:bd (A-(n:Rat)-0) B C=d) (he:(d==0)=true) (hw2:((D-(n:Rat))*(D-(n:Rat))-E*E*F)*w2=1) (hz:Sz 3421 m) (oT:Ok Tryz.prog 337 [.a ((cR ((D-(n:Rat))*w2)++cR (-E*w2)++cR F))] [dR (m:Rat)]) (y0:((m:Rat)+1)≠0):Ok Tryz.prog 269 [.a ((cR A++cR B++cR C)),.a ((cR D++cR E++cR F))] [dR ((n:Rat)+1/((m:Rat)+1))]:=by
 have o1:Rz 6000000 (1:Rat):=n6 (by decide+kernel)
 have s1:Sz 19980000 (1:Int):=cX (by decide) (by decide) (by decide)
 have kn:Rz 6000000 (n:Rat):=L.zn.m_
 have sn:Sz 19980000 n:=L.nz.m_
 have kA:Rz 6000000 A:=L.kA.m_
 have kD:Rz 6000000 D:=L.kD.m_
 have z0:Rz 2 (0:Rat):=eK (by decide)
 have h0:Rz 6000000 (0:Rat):=eK (by decide)
 have zm:Rz 3421 (m:Rat):=dm hz (by decide)
 have km:Rz 6000000 (m:Rat):=zm.m_
 have zy:Rz 3423 ((m:Rat)+1):=zm.add (l:=1) (n6 (by decide+kernel))
 have ky:Rz 6000000 ((m:Rat)+1):=zy.m_
 have kp:Rz 6000000 (1/((m:Rat)+1)):=(Rz.div (k:=1) (n6 (by decide+kernel)) zy y0).m_
 refine ex uH 81 [.cell 4 38] rfl<|ae<|ag<|ae<|ag<|ac rfl ((show Ok Tryz.prog 18 [.c (.i .i64 1)] [dR 1] from dH (by omega) (by omega)))<|ac rfl ((show Ok Tryz.prog 18 [.c (.i .i64 0)] [dR 0] from dH (by omega) (by omega)))<|ae<|ae<|bz<|bQ 2<|aW (cb rfl (bX (bU kA h0 ((L.hA.sub z0).m_) (L.kB.m_) (L.kC.m_)) e0))<|aW (aU (ew rfl) g0) ?_
 refine fL<|bn rfl<|aB<|ae<|ag ?_
 refine ac rfl (oA)<|ae<|ag ?_
 refine ac rfl (cK kn o1)<|ae<|ae<|bz<|bQ 2 ?_
 refine aW (cb rfl (bX (bU kD (L.zn1.m_) (L.dn1.m_) (L.kE.m_) (L.kF.m_)) hc)) ?_
 refine aW (aU (ew rfl) hg) ?_
 refine bD<|bn rfl<|aB<|ae<|fb 8 [] ?_
 refine aC rfl (nG kA kn) ?_
 refine aC rfl (nG kD kn)<|ae<|ag<|ae<|ae<|bz<|bQ 2 ?_
 refine aW (cb rfl (bX (bU (L.an.m_) h0 ((L.an.sub z0).m_) (L.kB.m_) (L.kC.m_)) hd)) ?_
 refine aW (aU (ew rfl) he) ?_
 refine bD<|dG rfl<|fb 5 [] ?_
 refine aC rfl (mZ (L.dn.m_) (L.kE.m_) (L.kF.m_) hw2) ?_
 refine aC rfl (oT) ?_
 refine aC rfl (cK km o1)<|ae<|ag ?_
 refine ac rfl (pR o1 ky y0)<|ae<|ag ?_
 refine ac rfl (cK kn kp) ?_
 refine a9 ?_
 exact ah (aQ aX rfl aa)
theorem W1 (L:Lv A B C D E F n) (e0:bd (A-0) B C=c0) (g0:decide (c0<0)=false) (_g1:decide (c0≥0)=true) (oA:Ok Tryz.prog 337 [.a ((cR A++cR B++cR C))] [dR (n:Rat)]) (hc:bd (D-((n:Rat)+1)) E F=c) (hg:decide (c>0)=false) (hd:bd (A-(n:Rat)-0) B C=d) (he:(d==0)=false) (hw2:((D-(n:Rat))*(D-(n:Rat))-E*E*F)*w2=1) (hw1:((A-(n:Rat))*(A-(n:Rat))-B*B*C)*w1=1) (ih:Ok Tryz.prog 269 [.a ((cR ((D-(n:Rat))*w2)++cR (-E*w2)++cR F)),.a ((cR ((A-(n:Rat))*w1)++cR (-B*w1)++cR C))] [dR (fr P Q)]) (zy:Rz 6841 (fr P Q)) (y0:fr P Q≠0):Ok Tryz.prog 269 [.a ((cR A++cR B++cR C)),.a ((cR D++cR E++cR F))] [dR ((n:Rat)+1/fr P Q)]:=by
 have o1:Rz 6000000 (1:Rat):=n6 (by decide+kernel)
 have s1:Sz 19980000 (1:Int):=cX (by decide) (by decide) (by decide)
 have kn:Rz 6000000 (n:Rat):=L.zn.m_
 have sn:Sz 19980000 n:=L.nz.m_
 have kA:Rz 6000000 A:=L.kA.m_
 have kD:Rz 6000000 D:=L.kD.m_
 have z0:Rz 2 (0:Rat):=eK (by decide)
 have h0:Rz 6000000 (0:Rat):=eK (by decide)
 have ky:Rz 6000000 (fr P Q):=zy.m_
 have kp:Rz 6000000 (1/fr P Q):=(Rz.div (k:=1) (n6 (by decide+kernel)) zy y0).m_
 refine ex uH 81 [.cell 4 38] rfl<|ae<|ag<|ae<|ag<|ac rfl ((show Ok Tryz.prog 18 [.c (.i .i64 1)] [dR 1] from dH (by omega) (by omega)))<|ac rfl ((show Ok Tryz.prog 18 [.c (.i .i64 0)] [dR 0] from dH (by omega) (by omega)))<|ae<|ae<|bz<|bQ 2<|aW (cb rfl (bX (bU kA h0 ((L.hA.sub z0).m_) (L.kB.m_) (L.kC.m_)) e0))<|aW (aU (ew rfl) g0) ?_
 refine fL<|bn rfl<|aB<|ae<|ag ?_
 refine ac rfl (oA)<|ae<|ag ?_
 refine ac rfl (cK kn o1)<|ae<|ae<|bz<|bQ 2 ?_
 refine aW (cb rfl (bX (bU kD (L.zn1.m_) (L.dn1.m_) (L.kE.m_) (L.kF.m_)) hc)) ?_
 refine aW (aU (ew rfl) hg) ?_
 refine bD<|bn rfl<|aB<|ae<|fb 8 [] ?_
 refine aC rfl (nG kA kn) ?_
 refine aC rfl (nG kD kn)<|ae<|ag<|ae<|ae<|bz<|bQ 2 ?_
 refine aW (cb rfl (bX (bU (L.an.m_) h0 ((L.an.sub z0).m_) (L.kB.m_) (L.kC.m_)) hd)) ?_
 refine aW (aU (ew rfl) he) ?_
 refine bD<|bn rfl<|fb 5 [] ?_
 refine aC rfl (mZ (L.dn.m_) (L.kE.m_) (L.kF.m_) hw2) ?_
 refine aC rfl (mZ (L.an.m_) (L.kB.m_) (L.kC.m_) hw1) ?_
 refine aC rfl (ih)<|ae<|ag ?_
 refine ac rfl (pR o1 ky y0)<|ae<|ag ?_
 refine ac rfl (cK kn kp) ?_
 refine a9 ?_
 exact ah (aQ aX rfl aa)
theorem Th (L:Lv A B C D E F n) (e0:bd (A-0) B C=c0) (g0:decide (c0<0)=true) (g1:decide (c0≥0)=false) (f0:bd (D-0) E F=d0) (k0:decide (d0>0)=false) (oA:Ok Tryz.prog 337 [.a ((cR A++cR B++cR C))] [dR (n:Rat)]) (hc:bd (D-((n:Rat)+1)) E F=c) (hg:decide (c>0)=true) (hz:Sz 3421 m) (oT:Ok Tryz.prog 337 [.a ((cR D++cR E++cR F))] [dR (m:Rat)]) (hm2:bd (D-(m:Rat)) E F=m2) (he:(m2==0)=true):Ok Tryz.prog 269 [.a ((cR A++cR B++cR C)),.a ((cR D++cR E++cR F))] [dR ((m:Rat)-1)]:=by
 have o1:Rz 6000000 (1:Rat):=n6 (by decide+kernel)
 have s1:Sz 19980000 (1:Int):=cX (by decide) (by decide) (by decide)
 have kn:Rz 6000000 (n:Rat):=L.zn.m_
 have sn:Sz 19980000 n:=L.nz.m_
 have kA:Rz 6000000 A:=L.kA.m_
 have kD:Rz 6000000 D:=L.kD.m_
 have z0:Rz 2 (0:Rat):=eK (by decide)
 have h0:Rz 6000000 (0:Rat):=eK (by decide)
 have zm:Rz 3421 (m:Rat):=dm hz (by decide)
 have km:Rz 6000000 (m:Rat):=zm.m_
 refine ex uH 81 [.cell 4 38] rfl<|ae<|ag<|ae<|ag<|ac rfl ((show Ok Tryz.prog 18 [.c (.i .i64 1)] [dR 1] from dH (by omega) (by omega)))<|ac rfl ((show Ok Tryz.prog 18 [.c (.i .i64 0)] [dR 0] from dH (by omega) (by omega)))<|ae<|ae<|bz<|bQ 2<|aW (cb rfl (bX (bU kA h0 ((L.hA.sub z0).m_) (L.kB.m_) (L.kC.m_)) e0))<|aW (aU (ew rfl) g0) ?_
 refine bQ 3<|aW (cb rfl (bX (bU kD h0 ((L.hD.sub z0).m_) (L.kE.m_) (L.kF.m_)) f0))<|aW (aU (ew rfl) k0) ?_
 refine fL<|bn rfl<|aB<|ae<|ag ?_
 refine ac rfl (oA)<|ae<|ag ?_
 refine ac rfl (cK kn o1)<|ae<|ae<|bz<|bQ 2 ?_
 refine aW (cb rfl (bX (bU kD (L.zn1.m_) (L.dn1.m_) (L.kE.m_) (L.kF.m_)) hc)) ?_
 refine aW (aU (ew rfl) hg) ?_
 refine bD<|dG rfl<|ae<|ae<|bz<|bQ 2<|aW (cb rfl (bX (bU kA h0 ((L.hA.sub z0).m_) (L.kB.m_) (L.kC.m_)) e0))<|aW (aU (ew rfl) g1) ?_
 refine bD<|bn rfl<|aB<|ae<|ag ?_
 refine ac rfl (oT)<|ae<|ae<|bz<|bQ 2 ?_
 refine aW (cb rfl (bX (bU kD km ((L.hD.sub zm).m_) (L.kE.m_) (L.kF.m_)) hm2))<|aW (aU (ew rfl) he) ?_
 refine bD<|dG rfl<|ag ?_
 refine ac rfl (eo km o1) ?_
 refine ae<|ag ?_
 refine a9 ?_
 exact ah (aQ aX rfl aa)
theorem QU (L:Lv A B C D E F n) (e0:bd (A-0) B C=c0) (g0:decide (c0<0)=true) (g1:decide (c0≥0)=false) (f0:bd (D-0) E F=d0) (k0:decide (d0>0)=false) (oA:Ok Tryz.prog 337 [.a ((cR A++cR B++cR C))] [dR (n:Rat)]) (hc:bd (D-((n:Rat)+1)) E F=c) (hg:decide (c>0)=true) (hz:Sz 3421 m) (oT:Ok Tryz.prog 337 [.a ((cR D++cR E++cR F))] [dR (m:Rat)]) (hm2:bd (D-(m:Rat)) E F=m2) (he:(m2==0)=false):Ok Tryz.prog 269 [.a ((cR A++cR B++cR C)),.a ((cR D++cR E++cR F))] [dR (m:Rat)]:=by
 have o1:Rz 6000000 (1:Rat):=n6 (by decide+kernel)
 have s1:Sz 19980000 (1:Int):=cX (by decide) (by decide) (by decide)
 have kn:Rz 6000000 (n:Rat):=L.zn.m_
 have sn:Sz 19980000 n:=L.nz.m_
 have kA:Rz 6000000 A:=L.kA.m_
 have kD:Rz 6000000 D:=L.kD.m_
 have z0:Rz 2 (0:Rat):=eK (by decide)
 have h0:Rz 6000000 (0:Rat):=eK (by decide)
 have zm:Rz 3421 (m:Rat):=dm hz (by decide)
 have km:Rz 6000000 (m:Rat):=zm.m_
 refine ex uH 81 [.cell 4 38] rfl<|ae<|ag<|ae<|ag<|ac rfl ((show Ok Tryz.prog 18 [.c (.i .i64 1)] [dR 1] from dH (by omega) (by omega)))<|ac rfl ((show Ok Tryz.prog 18 [.c (.i .i64 0)] [dR 0] from dH (by omega) (by omega)))<|ae<|ae<|bz<|bQ 2<|aW (cb rfl (bX (bU kA h0 ((L.hA.sub z0).m_) (L.kB.m_) (L.kC.m_)) e0))<|aW (aU (ew rfl) g0) ?_
 refine bQ 3<|aW (cb rfl (bX (bU kD h0 ((L.hD.sub z0).m_) (L.kE.m_) (L.kF.m_)) f0))<|aW (aU (ew rfl) k0) ?_
 refine fL<|bn rfl<|aB<|ae<|ag ?_
 refine ac rfl (oA)<|ae<|ag ?_
 refine ac rfl (cK kn o1)<|ae<|ae<|bz<|bQ 2 ?_
 refine aW (cb rfl (bX (bU kD (L.zn1.m_) (L.dn1.m_) (L.kE.m_) (L.kF.m_)) hc)) ?_
 refine aW (aU (ew rfl) hg) ?_
 refine bD<|dG rfl<|ae<|ae<|bz<|bQ 2<|aW (cb rfl (bX (bU kA h0 ((L.hA.sub z0).m_) (L.kB.m_) (L.kC.m_)) e0))<|aW (aU (ew rfl) g1) ?_
 refine bD<|bn rfl<|aB<|ae<|ag ?_
 refine ac rfl (oT)<|ae<|ae<|bz<|bQ 2 ?_
 refine aW (cb rfl (bX (bU kD km ((L.hD.sub zm).m_) (L.kE.m_) (L.kF.m_)) hm2))<|aW (aU (ew rfl) he) ?_
 refine bD<|bn rfl<|aB<|ae<|ag ?_
 refine a9 ?_
 exact ah (aQ aX rfl aa)
theorem XZ (L:Lv A B C D E F n) (e0:bd (A-0) B C=c0) (g0:decide (c0<0)=true) (_g1:decide (c0≥0)=false) (f0:bd (D-0) E F=d0) (k0:decide (d0>0)=false) (oA:Ok Tryz.prog 337 [.a ((cR A++cR B++cR C))] [dR (n:Rat)]) (hc:bd (D-((n:Rat)+1)) E F=c) (hg:decide (c>0)=false) (hd:bd (A-(n:Rat)-0) B C=d) (he:(d==0)=true) (hw2:((D-(n:Rat))*(D-(n:Rat))-E*E*F)*w2=1) (hz:Sz 3421 m) (oT:Ok Tryz.prog 337 [.a ((cR ((D-(n:Rat))*w2)++cR (-E*w2)++cR F))] [dR (m:Rat)]) (y0:((m:Rat)+1)≠0):Ok Tryz.prog 269 [.a ((cR A++cR B++cR C)),.a ((cR D++cR E++cR F))] [dR ((n:Rat)+1/((m:Rat)+1))]:=by
 have o1:Rz 6000000 (1:Rat):=n6 (by decide+kernel)
 have s1:Sz 19980000 (1:Int):=cX (by decide) (by decide) (by decide)
 have kn:Rz 6000000 (n:Rat):=L.zn.m_
 have sn:Sz 19980000 n:=L.nz.m_
 have kA:Rz 6000000 A:=L.kA.m_
 have kD:Rz 6000000 D:=L.kD.m_
 have z0:Rz 2 (0:Rat):=eK (by decide)
 have h0:Rz 6000000 (0:Rat):=eK (by decide)
 have zm:Rz 3421 (m:Rat):=dm hz (by decide)
 have km:Rz 6000000 (m:Rat):=zm.m_
 have zy:Rz 3423 ((m:Rat)+1):=zm.add (l:=1) (n6 (by decide+kernel))
 have ky:Rz 6000000 ((m:Rat)+1):=zy.m_
 have kp:Rz 6000000 (1/((m:Rat)+1)):=(Rz.div (k:=1) (n6 (by decide+kernel)) zy y0).m_
 refine ex uH 81 [.cell 4 38] rfl<|ae<|ag<|ae<|ag<|ac rfl ((show Ok Tryz.prog 18 [.c (.i .i64 1)] [dR 1] from dH (by omega) (by omega)))<|ac rfl ((show Ok Tryz.prog 18 [.c (.i .i64 0)] [dR 0] from dH (by omega) (by omega)))<|ae<|ae<|bz<|bQ 2<|aW (cb rfl (bX (bU kA h0 ((L.hA.sub z0).m_) (L.kB.m_) (L.kC.m_)) e0))<|aW (aU (ew rfl) g0) ?_
 refine bQ 3<|aW (cb rfl (bX (bU kD h0 ((L.hD.sub z0).m_) (L.kE.m_) (L.kF.m_)) f0))<|aW (aU (ew rfl) k0) ?_
 refine fL<|bn rfl<|aB<|ae<|ag ?_
 refine ac rfl (oA)<|ae<|ag ?_
 refine ac rfl (cK kn o1)<|ae<|ae<|bz<|bQ 2 ?_
 refine aW (cb rfl (bX (bU kD (L.zn1.m_) (L.dn1.m_) (L.kE.m_) (L.kF.m_)) hc)) ?_
 refine aW (aU (ew rfl) hg) ?_
 refine bD<|bn rfl<|aB<|ae<|fb 8 [] ?_
 refine aC rfl (nG kA kn) ?_
 refine aC rfl (nG kD kn)<|ae<|ag<|ae<|ae<|bz<|bQ 2 ?_
 refine aW (cb rfl (bX (bU (L.an.m_) h0 ((L.an.sub z0).m_) (L.kB.m_) (L.kC.m_)) hd)) ?_
 refine aW (aU (ew rfl) he) ?_
 refine bD<|dG rfl<|fb 5 [] ?_
 refine aC rfl (mZ (L.dn.m_) (L.kE.m_) (L.kF.m_) hw2) ?_
 refine aC rfl (oT) ?_
 refine aC rfl (cK km o1)<|ae<|ag ?_
 refine ac rfl (pR o1 ky y0)<|ae<|ag ?_
 refine ac rfl (cK kn kp) ?_
 refine a9 ?_
 exact ah (aQ aX rfl aa)
theorem Xm (L:Lv A B C D E F n) (e0:bd (A-0) B C=c0) (g0:decide (c0<0)=true) (_g1:decide (c0≥0)=false) (f0:bd (D-0) E F=d0) (k0:decide (d0>0)=false) (oA:Ok Tryz.prog 337 [.a ((cR A++cR B++cR C))] [dR (n:Rat)]) (hc:bd (D-((n:Rat)+1)) E F=c) (hg:decide (c>0)=false) (hd:bd (A-(n:Rat)-0) B C=d) (he:(d==0)=false) (hw2:((D-(n:Rat))*(D-(n:Rat))-E*E*F)*w2=1) (hw1:((A-(n:Rat))*(A-(n:Rat))-B*B*C)*w1=1) (ih:Ok Tryz.prog 269 [.a ((cR ((D-(n:Rat))*w2)++cR (-E*w2)++cR F)),.a ((cR ((A-(n:Rat))*w1)++cR (-B*w1)++cR C))] [dR (fr P Q)]) (zy:Rz 6841 (fr P Q)) (y0:fr P Q≠0):Ok Tryz.prog 269 [.a ((cR A++cR B++cR C)),.a ((cR D++cR E++cR F))] [dR ((n:Rat)+1/fr P Q)]:=by
 have o1:Rz 6000000 (1:Rat):=n6 (by decide+kernel)
 have s1:Sz 19980000 (1:Int):=cX (by decide) (by decide) (by decide)
 have kn:Rz 6000000 (n:Rat):=L.zn.m_
 have sn:Sz 19980000 n:=L.nz.m_
 have kA:Rz 6000000 A:=L.kA.m_
 have kD:Rz 6000000 D:=L.kD.m_
 have z0:Rz 2 (0:Rat):=eK (by decide)
 have h0:Rz 6000000 (0:Rat):=eK (by decide)
 have ky:Rz 6000000 (fr P Q):=zy.m_
 have kp:Rz 6000000 (1/fr P Q):=(Rz.div (k:=1) (n6 (by decide+kernel)) zy y0).m_
 refine ex uH 81 [.cell 4 38] rfl<|ae<|ag<|ae<|ag<|ac rfl ((show Ok Tryz.prog 18 [.c (.i .i64 1)] [dR 1] from dH (by omega) (by omega)))<|ac rfl ((show Ok Tryz.prog 18 [.c (.i .i64 0)] [dR 0] from dH (by omega) (by omega)))<|ae<|ae<|bz<|bQ 2<|aW (cb rfl (bX (bU kA h0 ((L.hA.sub z0).m_) (L.kB.m_) (L.kC.m_)) e0))<|aW (aU (ew rfl) g0) ?_
 refine bQ 3<|aW (cb rfl (bX (bU kD h0 ((L.hD.sub z0).m_) (L.kE.m_) (L.kF.m_)) f0))<|aW (aU (ew rfl) k0) ?_
 refine fL<|bn rfl<|aB<|ae<|ag ?_
 refine ac rfl (oA)<|ae<|ag ?_
 refine ac rfl (cK kn o1)<|ae<|ae<|bz<|bQ 2 ?_
 refine aW (cb rfl (bX (bU kD (L.zn1.m_) (L.dn1.m_) (L.kE.m_) (L.kF.m_)) hc)) ?_
 refine aW (aU (ew rfl) hg) ?_
 refine bD<|bn rfl<|aB<|ae<|fb 8 [] ?_
 refine aC rfl (nG kA kn) ?_
 refine aC rfl (nG kD kn)<|ae<|ag<|ae<|ae<|bz<|bQ 2 ?_
 refine aW (cb rfl (bX (bU (L.an.m_) h0 ((L.an.sub z0).m_) (L.kB.m_) (L.kC.m_)) hd)) ?_
 refine aW (aU (ew rfl) he) ?_
 refine bD<|bn rfl<|fb 5 [] ?_
 refine aC rfl (mZ (L.dn.m_) (L.kE.m_) (L.kF.m_) hw2) ?_
 refine aC rfl (mZ (L.an.m_) (L.kB.m_) (L.kC.m_) hw1) ?_
 refine aC rfl (ih)<|ae<|ag ?_
 refine ac rfl (pR o1 ky y0)<|ae<|ag ?_
 refine ac rfl (cK kn kp) ?_
 refine a9 ?_
 exact ah (aQ aX rfl aa)
theorem ZV (L:Lv A B C D E F n) (hc:eE (D-((n:Rat)+1)) E (-0) 0 F 0=c) (hg:decide (c>0)=true):Ok Tryz.prog 228 [.a ((cR A++cR B++cR C)),.a ((cR D++cR E++cR F))] [dR ((n:Rat)+1)]:=by
 have o1:Rz 6000000 (1:Rat):=n6 (by decide+kernel)
 have s1:Sz 19980000 (1:Int):=cX (by decide) (by decide) (by decide)
 have kn:Rz 6000000 (n:Rat):=L.zn.m_
 have sn:Sz 19980000 n:=L.nz.m_
 have kA:Rz 6000000 A:=L.kA.m_
 have kD:Rz 6000000 D:=L.kD.m_
 refine ex Tryz.func228 74 [.cell 4 38] rfl<|ae<|ag<|ae<|ag<|ac rfl ((show Ok Tryz.prog 70 [.c (.i .i64 1)] [dR 1] from fm (by omega) (by omega)))<|ae<|ag ?_
 refine ac rfl (ES (qu (L.hA.m_) (L.hB.m_) (L.hC.m_)) L.nf.symm) ?_
 refine ac rfl ((show Ok Tryz.prog 163 [.c (.i .i64 1)] [dI 1] from iy (by decide) (by decide))) ?_
 refine ac rfl (wd (vw sn s1 (by decide)) (dv1 _))<|ae<|ag ?_
 refine ac rfl (iG kn o1) ?_
 refine ae<|ae<|bz<|bQ 2<|aW (cb rfl (bX (dX (L.kD.m_) L.kE L.kF (L.zn1.m_) L.dn1 L.v2.c0) hc))<|aW (aU (ew rfl) hg) ?_
 refine bD<|dG rfl<|ae<|ag ?_
 refine a9 ?_
 exact ah (aQ aX rfl aa)
theorem ZN (L:Lv A B C D E F n) (hc:eE (D-((n:Rat)+1)) E (-0) 0 F 0=c) (hg:decide (c>0)=false) (hd:eE (A-(n:Rat)) B (-0) 0 C 0=d) (he:(d==0)=true) (i1:vi (D-(n:Rat)) E F≠0∧(D-(n:Rat))*(D-(n:Rat))-E*E*F≠0∧GC (D-(n:Rat)) E F=w2∧zc (-E*w2) F=F) (tA:Rz 25000 ((D-(n:Rat))*w2)) (tB:Rz 25000 (-E*w2)) (hm:m=nK ((D-(n:Rat))*w2) (-E*w2) F) (hz:Sz 3421 m) (y0:((m:Rat)+1)≠0):Ok Tryz.prog 228 [.a ((cR A++cR B++cR C)),.a ((cR D++cR E++cR F))] [dR ((n:Rat)+1/((m:Rat)+1))]:=by
 have o1:Rz 6000000 (1:Rat):=n6 (by decide+kernel)
 have s1:Sz 19980000 (1:Int):=cX (by decide) (by decide) (by decide)
 have kn:Rz 6000000 (n:Rat):=L.zn.m_
 have sn:Sz 19980000 n:=L.nz.m_
 have kA:Rz 6000000 A:=L.kA.m_
 have kD:Rz 6000000 D:=L.kD.m_
 have sm:Sz 19980000 m:=hz.m_
 have zm:Rz 3421 (m:Rat):=dm hz (by decide)
 have km:Rz 6000000 (m:Rat):=zm.m_
 have zy:Rz 3423 ((m:Rat)+1):=zm.add (l:=1) (n6 (by decide+kernel))
 have ky:Rz 6000000 ((m:Rat)+1):=zy.m_
 have kp:Rz 6000000 (1/((m:Rat)+1)):=(Rz.div (k:=1) (n6 (by decide+kernel)) zy y0).m_
 refine ex Tryz.func228 74 [.cell 4 38] rfl<|ae<|ag<|ae<|ag<|ac rfl ((show Ok Tryz.prog 70 [.c (.i .i64 1)] [dR 1] from fm (by omega) (by omega)))<|ae<|ag ?_
 refine ac rfl (ES (qu (L.hA.m_) (L.hB.m_) (L.hC.m_)) L.nf.symm) ?_
 refine ac rfl ((show Ok Tryz.prog 163 [.c (.i .i64 1)] [dI 1] from iy (by decide) (by decide))) ?_
 refine ac rfl (wd (vw sn s1 (by decide)) (dv1 _))<|ae<|ag ?_
 refine ac rfl (iG kn o1) ?_
 refine ae<|ae<|bz<|bQ 2<|aW (cb rfl (bX (dX (L.kD.m_) L.kE L.kF (L.zn1.m_) L.dn1 L.v2.c0) hc))<|aW (aU (ew rfl) hg) ?_
 refine bD<|bn rfl<|aB<|ae<|ag ?_
 refine ac rfl (zq kD kn) ?_
 refine ac rfl (vJ (zl (L.dn.m_) (L.kE.m_) (L.kF.m_) i1.1 i1.2.1) (congrArg _ i1.2.2.1) (congrArg _ i1.2.2.1) ((congrArg (fun w=>zc (-E*w) F) i1.2.2.1).trans i1.2.2.2))<|ae<|ag<|ae<|ae<|bz<|bQ 2 ?_
 refine aW (cb rfl (bX (dX (L.kA.m_) L.kB L.kC (L.zn.m_) L.an L.v1.c0) hd)) ?_
 refine aW (aU (ew rfl) he) ?_
 refine bD<|dG rfl<|ae<|ag ?_
 refine ac rfl (ES (qu (tA.m_) (tB.m_) (L.hF.m_)) hm.symm) ?_
 refine ac rfl ((show Ok Tryz.prog 163 [.c (.i .i64 1)] [dI 1] from iy (by decide) (by decide))) ?_
 refine ac rfl (wd (vw sm s1 (by decide)) (dv1 _))<|ag ?_
 refine ac rfl (iG km o1) ?_
 refine ae<|ag ?_
 refine ac rfl (o7 o1 ky y0) ?_
 refine ae<|ag ?_
 refine ac rfl (iG kn kp) ?_
 refine a9 ?_
 exact ah (aQ aX rfl aa)
theorem Ym (L:Lv A B C D E F n) (hc:eE (D-((n:Rat)+1)) E (-0) 0 F 0=c) (hg:decide (c>0)=false) (hd:eE (A-(n:Rat)) B (-0) 0 C 0=d) (he:(d==0)=false) (i1:vi (D-(n:Rat)) E F≠0∧(D-(n:Rat))*(D-(n:Rat))-E*E*F≠0∧GC (D-(n:Rat)) E F=w2∧zc (-E*w2) F=F) (i2:vi (A-(n:Rat)) B C≠0∧(A-(n:Rat))*(A-(n:Rat))-B*B*C≠0∧GC (A-(n:Rat)) B C=w1∧zc (-B*w1) C=C) (ih:Ok Tryz.prog 228 [.a ((cR ((D-(n:Rat))*w2)++cR (-E*w2)++cR F)),.a ((cR ((A-(n:Rat))*w1)++cR (-B*w1)++cR C))] [dR (fr P Q)]) (zy:Rz 6841 (fr P Q)) (y0:fr P Q≠0):Ok Tryz.prog 228 [.a ((cR A++cR B++cR C)),.a ((cR D++cR E++cR F))] [dR ((n:Rat)+1/fr P Q)]:=by
 have o1:Rz 6000000 (1:Rat):=n6 (by decide+kernel)
 have s1:Sz 19980000 (1:Int):=cX (by decide) (by decide) (by decide)
 have kn:Rz 6000000 (n:Rat):=L.zn.m_
 have sn:Sz 19980000 n:=L.nz.m_
 have kA:Rz 6000000 A:=L.kA.m_
 have kD:Rz 6000000 D:=L.kD.m_
 have ky:Rz 6000000 (fr P Q):=zy.m_
 have kp:Rz 6000000 (1/fr P Q):=(Rz.div (k:=1) (n6 (by decide+kernel)) zy y0).m_
 refine ex Tryz.func228 74 [.cell 4 38] rfl<|ae<|ag<|ae<|ag<|ac rfl ((show Ok Tryz.prog 70 [.c (.i .i64 1)] [dR 1] from fm (by omega) (by omega)))<|ae<|ag ?_
 refine ac rfl (ES (qu (L.hA.m_) (L.hB.m_) (L.hC.m_)) L.nf.symm) ?_
 refine ac rfl ((show Ok Tryz.prog 163 [.c (.i .i64 1)] [dI 1] from iy (by decide) (by decide))) ?_
 refine ac rfl (wd (vw sn s1 (by decide)) (dv1 _))<|ae<|ag ?_
 refine ac rfl (iG kn o1) ?_
 refine ae<|ae<|bz<|bQ 2<|aW (cb rfl (bX (dX (L.kD.m_) L.kE L.kF (L.zn1.m_) L.dn1 L.v2.c0) hc))<|aW (aU (ew rfl) hg) ?_
 refine bD<|bn rfl<|aB<|ae<|ag ?_
 refine ac rfl (zq kD kn) ?_
 refine ac rfl (vJ (zl (L.dn.m_) (L.kE.m_) (L.kF.m_) i1.1 i1.2.1) (congrArg _ i1.2.2.1) (congrArg _ i1.2.2.1) ((congrArg (fun w=>zc (-E*w) F) i1.2.2.1).trans i1.2.2.2))<|ae<|ag<|ae<|ae<|bz<|bQ 2 ?_
 refine aW (cb rfl (bX (dX (L.kA.m_) L.kB L.kC (L.zn.m_) L.an L.v1.c0) hd)) ?_
 refine aW (aU (ew rfl) he) ?_
 refine bD<|bn rfl<|ae<|ag ?_
 refine ac rfl (zq kA kn) ?_
 refine ac rfl (vJ (zl (L.an.m_) (L.kB.m_) (L.kC.m_) i2.1 i2.2.1) (congrArg _ i2.2.2.1) (congrArg _ i2.2.2.1) ((congrArg (fun w=>zc (-B*w) C) i2.2.2.1).trans i2.2.2.2))<|ag ?_
 refine ac rfl (ih) ?_
 refine ae<|ag ?_
 refine ac rfl (o7 o1 ky y0) ?_
 refine ae<|ag ?_
 refine ac rfl (iG kn kp) ?_
 refine a9 ?_
 exact ah (aQ aX rfl aa)
theorem GX (x:Rat):((x.num.fdiv (x.den:Int):Int):Rat)≤x∧x<((x.num.fdiv (x.den:Int)+1:Int):Rat):=by
 have dn:=den_pos x
 obtain⟨h1,h2⟩:=JQ (Z:=x.num) dn
 have hn:=tN x
 have hp:(0:Rat)<((x.den:Int):Rat):=tH.2 dn
 refine⟨ph hp ?_,?_⟩
 ·rw[hn,←fE];exact ef.2 h1
 ·apply fH
  intro hc
  have h3:=rQ (show((x.num.fdiv (x.den:Int)+1:Int):Rat)≤x by grind) (show(0:Rat)≤((x.den:Int):Rat) by grind)
  rw[hn,←fE] at h3
  have h4:=ef.1 h3
  omega
section
variable {a b c:Rat}
theorem Z4 (hc:0≤c):ck (Re.of ((bO ((b*b*c).num.fdiv ((b*b*c).den:Int)):Int):Rat)) (Re.of (if b<0 then-b else b)*Re.rt c)∧
 ck (Re.of (if b<0 then-b else b)*Re.rt c) (Re.of ((bO ((b*b*c).num.fdiv ((b*b*c).den:Int))+1:Int):Rat)):=by
 have hbc:0≤b*b*c:=by
  have:0≤b*b:=by
   by_cases h:0≤b
   ·exact f7 h h
   ·have:=f7 (show 0≤ -b by grind) (show 0≤ -b by grind);grind
  exact f7 this hc
 obtain⟨q1,q2⟩:=GX (b*b*c)
 have hw:0≤(b*b*c).num.fdiv ((b*b*c).den:Int):=by
  have h1:((0:Int):Rat)<(((b*b*c).num.fdiv ((b*b*c).den:Int)+1:Int):Rat):=by have:=hbc;have:=q2;grind
  have:=iv.1 h1
  omega
 have t1:=qL hw
 have t2:=v7 hw
 have t0:=eg ((b*b*c).num.fdiv ((b*b*c).den:Int))
 generalize (b*b*c).num.fdiv ((b*b*c).den:Int)=w at*
 generalize bO w=t at*
 generalize hb':(if b<0 then-b else b)=b'
 have hb2:b'*b'=b*b∧0≤b':=by grind
 have nnR:0≤aO (Re.of b'*Re.rt c):=by
  have p2:0≤aO (Re.of b'):=by rw[ca];exact jJ hb2.2
  have p3:=uk c
  rw[bj]
  exact fK p2 p3
 have eS: ∀q:Rat,aO (Re.of b'*Re.rt c*(Re.of b'*Re.rt c)-Re.of q)=aw (b*b*c) q:=by
  intro q
  rw[←f9,←ca]
  refine dC ?_
  rw[show Re.of b'*Re.rt c*(Re.of b'*Re.rt c)-Re.of q-Re.of (b*b*c-q)=Re.of (b'*b')*(Re.rt c*Re.rt c-Re.of c) from ba fun k=>by
   simp only[ao,aD,aV];grind,bj,my hc,og]
 refine⟨?_,?_⟩
 ·refine pG (vZ t0) nnR ?_
  rw[gg,eS,←fE]
  exact jJ (Rat.le_trans (ef.2 t1) q1)
 ·refine pG nnR (vZ (by omega)) ?_
  have h3:0≤ -aO (Re.of b'*Re.rt c*(Re.of b'*Re.rt c)-Re.of (((t+1:Int):Rat)*((t+1:Int):Rat))):=by
   rw[eS,←fE]
   have h4:b*b*c≤(((t+1)*(t+1):Int):Rat):=Rat.le_trans (n7 q2) (ef.2 (by omega))
   have:=Ca (x:=b*b*c) (y:=(((t+1)*(t+1):Int):Rat)) h4
   omega
  rw[←b8] at h3
  refine j7 (fun k=>?_) h3
  simp only[bg,ao,aD,aV];grind
theorem Nk (m n:Int):((m:Int):Rat)+((n:Int):Rat)=((m+n:Int):Rat):=(iE m n).symm
theorem QY (hv:Vl b c):(¬b<0→nK a b c=a.num.fdiv (a.den:Int)+bO ((b*b*c).num.fdiv ((b*b*c).den:Int))∨nK a b c=a.num.fdiv (a.den:Int)+bO ((b*b*c).num.fdiv ((b*b*c).den:Int))+1)∧
 (b<0→nK a b c=a.num.fdiv (a.den:Int)-bO ((b*b*c).num.fdiv ((b*b*c).den:Int))∨nK a b c=a.num.fdiv (a.den:Int)-bO ((b*b*c).num.fdiv ((b*b*c).den:Int))-1):=by
 have f1:ck (Re.of ((nK a b c:Int):Rat)) (am a b c):=(sC hv.c0).1
 have f2:=ud (x:=a) (y:=b) hv.c0 hv.v
 obtain⟨r1,r2⟩:=Z4 (b:=b) hv.c0
 obtain⟨u1,u2⟩:=GX a
 generalize nK a b c=n at*
 generalize a.num.fdiv (a.den:Int)=u at*
 generalize bO ((b*b*c).num.fdiv ((b*b*c).den:Int))=t at*
 have key: ∀Y:Re,∀l h:Int,am a b c=Re.of a+Y→ck (Re.of (l:Rat)) Y→ck Y (Re.of (h:Rat))→u+l<n+1∧n<u+1+h:=by
  intro Y l h e g1 g2
  have k1:=eB (of_le u1) g1
  rw[←e,show Re.of (u:Rat)+Re.of (l:Rat)=Re.of (((u+l:Int)):Rat) from ba fun k=>by simp only[aI,aV,iE]] at k1
  have k2:=eB (gh (Re.of a)) g2
  rw[←e,show Re.of a+Re.of (h:Rat)=Re.of (a+(h:Rat)) from ba fun k=>by simp only[aI,aV]] at k2
  have k3:=pq k1 f2
  have k4:=fN (dW f1 k2)
  have k5:(n:Rat)<((u+1+h:Int):Rat):=by grind
  exact⟨Rat.intCast_lt_intCast.1 k3,iv.1 k5⟩
 refine⟨fun hb=>?_,fun hb=>?_⟩
 ·rw[if_neg hb] at r1 r2
  have:=key (Re.of b*Re.rt c) t (t+1) rfl r1 r2
  omega
 ·rw[if_pos hb] at r1 r2
  have:=key (Re.of b*Re.rt c) (-(t+1)) (-t) rfl (by
   refine j7 (fun k=>?_) r2
   simp only[ao,aD,aV,qI];grind) (by
   refine j7 (fun k=>?_) r1
   simp only[ao,aD,aV,qI];grind)
  omega
theorem T7 (hv:Vl b c) (m:Int):(m≤nK a b c→ ¬bd (a-(m:Rat)) b c<0)∧(nK a b c<m→bd (a-(m:Rat)) b c<0):=by
 have f1:ck (Re.of ((nK a b c:Int):Rat)) (am a b c):=(sC hv.c0).1
 have f2:=ud (x:=a) (y:=b) hv.c0 hv.v
 rw[sx hv.c0]
 refine⟨fun h=>?_,fun h=>?_⟩
 ·have h1:0≤aO (am a b c-Re.of (m:Rat)):=dW (o6 h) f1
  omega
 ·have h1:aO (Re.of (m:Rat)-am a b c)=1:=by
   rw[show Re.of (m:Rat)-am a b c=(Re.of (m:Rat)-Re.of ((nK a b c+1:Int):Rat))+(Re.of ((nK a b c+1:Int):Rat)-am a b c) from ba fun k=>by simp only[ao,aI];grind]
   exact jv (o6 (show nK a b c+1≤m by omega)) f2
  rw[d7];omega
theorem vC (ha:Rz 160000 a) (hb:Rz 160000 b) (hc:Rz 160000 c) (hv:Vl b c):Ok Tryz.prog 337 [.a (cR a++cR b++cR c)] [dR ((nK a b c:Int):Rat)]:=by
 obtain⟨n1,n2⟩:=QY (a:=a) hv
 have hF: ∀m:Int,bd (a-(m:Rat)) b c<0↔nK a b c<m:=fun m=>⟨fun h=>Int.not_le.1 fun q=>(T7 (a:=a) hv m).1 q h,(T7 (a:=a) hv m).2⟩
 have su:Sz 160000 (a.num.fdiv (a.den:Int)):=ha.n.fdiv
 have st:Sz 480000 (bO ((b*b*c).num.fdiv ((b*b*c).den:Int))):=((((hb.mul hb).mul hc).n).fdiv.isq).mono (by decide)
 by_cases hb0:b<0
 ·have g:aw b 0<0:=by unfold aw;rw[if_pos hb0];decide
  exact yfl ha hb hc (fun _=>rfl) (fun h=>absurd g h) st.neg (Nk _ _) ((su.addm st.neg).mono (by decide)) (by have:=n2 hb0;omega) hF
 ·have g: ¬aw b 0<0:=by unfold aw;rw[if_neg hb0];split<;>decide
  exact yfl ha hb hc (fun h=>absurd h g) (fun _=>rfl) st (Nk _ _) ((su.addm st).mono (by decide)) (by have:=n1 hb0;omega) hF
end
section
variable {A B C D E F:Rat}{P Q:Int}
theorem Jf (n:Int):fr (n+1) 1=(n:Rat)+1:=uM (by decide) (by rw[LZ,iE];have:=LZ;grind)
theorem Pz (h:0≤m):(m:Rat)+1≠0:=by have:=Ag h;grind
theorem Oq {P Q:Int}(hP:0<P) (hQ:0<Q):fr P Q≠0:=by
 have h:=fZ (p:=P) hQ
 have:=nT hP
 grind
theorem E8 (n:Int) (h:0≤m):fr (n*(m+1)+1) (m+1)=(n:Rat)+1/((m:Rat)+1):=by
 rw[vj (show 0<m+1 by omega) (by decide),Jf]
theorem QM (R:Res A B C D E F P Q):Ok Tryz.prog 228 [.a (cR A++cR B++cR C),.a (cR D++cR E++cR F)] [dR (fr P Q)]:=by
 induction R with
 |whole L a0 h=>
  rw[Jf]
  exact ZV L rfl (decide_eq_true (by rw[wO L.v2.c0,←Ak,h];decide))
 | @last A B C D E F w n m L a0 h hb hz hw hm tA tB m0 mz=>
   rw[E8 n m0]
   exact ZN L rfl (decide_eq_false (by rw[wO L.v2.c0,←Ak];omega)) ((wO L.v1.c0).trans hz) rfl (Jk L.v2 hb hw) tA tB hm mz (Pz m0)
 | @step A B C D E F w1 w2 n P Q L a0 h hb hz hw1 hw2 R p0 q0 z ih=>
   rw[vj p0 q0]
   exact Ym L rfl (decide_eq_false (by rw[wO L.v2.c0,←Ak];omega)) ((wO L.v1.c0).trans hz) rfl (Jk L.v2 hb hw2) (Jk L.v1 hz hw1) ih z (Oq p0 q0)
theorem Ta (X:Re):X-Re.of 0=X:=ba fun k=>by simp only[ao,aV];grind
theorem lW (hz:0≤z):bd (x-0) y z=aO (am x y z):=by rw[sx hz,Ta]
theorem Lv.flA (L:Lv A B C D E F n):Ok Tryz.prog 337 [.a (cR A++cR B++cR C)] [dR (n:Rat)]:=by
 rw[L.nf];exact vC L.kA L.kB L.kC L.v1
theorem Lv.sh (L:Lv A B C D E F n):bd (A-(n:Rat)-0) B C=aO (am A B C-Re.of (n:Rat)):=by rw[lW L.v1.c0,fI]
theorem Pc (R:Res A B C D E F P Q):Ok Tryz.prog 269 [.a (cR A++cR B++cR C),.a (cR D++cR E++cR F)] [dR (fr P Q)]:=by
 induction R with
 |whole L a0 h=>
  rw[Jf]
  exact Vh L (lW L.v1.c0) (decide_eq_false (by omega)) (decide_eq_true (by omega)) L.flA rfl (decide_eq_true (by rw[sx L.v2.c0,←Ak,h];decide))
 | @last A B C D E F w n m L a0 h hb hz hw hm tA tB m0 mz=>
   rw[E8 n m0]
   have oT:=vC (tA.mono (by decide)) (tB.mono (by decide)) L.kF ((ML L.v2 hw))
   rw[←hm] at oT
   exact WA L (lW L.v1.c0) (decide_eq_false (by omega)) (decide_eq_true (by omega)) L.flA rfl (decide_eq_false (by rw[sx L.v2.c0,←Ak];omega)) (L.sh.trans hz) rfl hw mz oT (Pz m0)
 | @step A B C D E F w1 w2 n P Q L a0 h hb hz hw1 hw2 R p0 q0 z ih=>
   rw[vj p0 q0]
   exact W1 L (lW L.v1.c0) (decide_eq_false (by omega)) (decide_eq_true (by omega)) L.flA rfl (decide_eq_false (by rw[sx L.v2.c0,←Ak];omega)) (L.sh.trans hz) rfl hw2 hw1 ih z (Oq p0 q0)
end
theorem aac (hA:Rz 330 A) (hB:Rz 330 B) (hC:Rz 330 C) (hD:Rz 330 D) (hE:Rz 330 E) (hF:Rz 330 F) (cC:0≤C) (cF:0≤F) (e1:eE (A-D) B (-E) 0 C F=n1) (g1:decide (n1≥0)=false) (ea:eE (A-0) B (-0) 0 C 0=na) (g2:decide (na<0)=true) (eb:eE (D-0) E (-0) 0 F 0=nb) (g3:decide (nb>0)=true):Ok Tryz.prog 126 [.a ((cR A++cR B++cR C)),.a ((cR D++cR E++cR F))] [dR 0,.c (.i .i64 0)]:=by
 have z0:Rz 2 (0:Rat):=eK (by decide)
 refine ex Tryz.func126 39 [.cell 4 38,.tmp 5] rfl<|ae<|ag<|ae<|ae<|bz<|bQ 2<|aW (cb rfl (bX (lk (hA.m_) (hB.m_) (hC.m_) (hD.m_) (hE.m_) (hF.m_) ((hA.sub hD).m_) cC cF) e1))<|aW (aU (ew rfl) g1) ?_
 refine bD<|bn rfl<|aB<|ae<|ag<|ac rfl ((show Ok Tryz.prog 70 [.c (.i .i64 0)] [dR 0] from fm (by omega) (by omega)))<|ae<|aP<|ae<|bz<|bQ 2<|aW (cb rfl (bX (dX (hA.m_) (hB.m_) (hC.m_) (z0.m_) ((hA.sub z0).m_) cC) ea))<|aW (aU (ew rfl) g2) ?_
 refine bQ 3<|aW (cb rfl (bX (dX (hD.m_) (hE.m_) (hF.m_) (z0.m_) ((hD.sub z0).m_) cF) eb))<|aW (aU (ew rfl) g3) ?_
 refine fL<|dG rfl<|ae<|ag ?_
 refine a9 ?_
 exact ah (aQ aX rfl (ak aa))
theorem Zt (hA:Rz 330 A) (hB:Rz 330 B) (hC:Rz 330 C) (hD:Rz 330 D) (hE:Rz 330 E) (hF:Rz 330 F) (cC:0≤C) (cF:0≤F) (e1:eE (A-D) B (-E) 0 C F=n1) (g1:decide (n1≥0)=false) (ea:eE (A-0) B (-0) 0 C 0=na) (g2:decide (na<0)=false) (eb:eE (D-0) E (-0) 0 F 0=nb) (g4:decide (nb≤0)=false) (ob:Ok Tryz.prog 228 [.a ((cR A++cR B++cR C)),.a ((cR D++cR E++cR F))] [dR z]):Ok Tryz.prog 126 [.a ((cR A++cR B++cR C)),.a ((cR D++cR E++cR F))] [dR z,.c (.i .i64 0)]:=by
 have z0:Rz 2 (0:Rat):=eK (by decide)
 refine ex Tryz.func126 39 [.cell 4 38,.tmp 5] rfl<|ae<|ag<|ae<|ae<|bz<|bQ 2<|aW (cb rfl (bX (lk (hA.m_) (hB.m_) (hC.m_) (hD.m_) (hE.m_) (hF.m_) ((hA.sub hD).m_) cC cF) e1))<|aW (aU (ew rfl) g1) ?_
 refine bD<|bn rfl<|aB<|ae<|ag<|ac rfl ((show Ok Tryz.prog 70 [.c (.i .i64 0)] [dR 0] from fm (by omega) (by omega)))<|ae<|aP<|ae<|bz<|bQ 2<|aW (cb rfl (bX (dX (hA.m_) (hB.m_) (hC.m_) (z0.m_) ((hA.sub z0).m_) cC) ea))<|aW (aU (ew rfl) g2) ?_
 refine fL<|bn rfl<|ae<|bz<|bQ 2<|aW (cb rfl (bX (dX (hD.m_) (hE.m_) (hF.m_) (z0.m_) ((hD.sub z0).m_) cF) eb))<|aW (aU (ew rfl) g4) ?_
 refine fL<|bn rfl<|aB<|ae<|ag ?_
 refine ac rfl (ob) ?_
 refine a9 ?_
 exact ah (aQ aX rfl (ak aa))
theorem ZL (hA:Rz 330 A) (hB:Rz 330 B) (hC:Rz 330 C) (hD:Rz 330 D) (hE:Rz 330 E) (hF:Rz 330 F) (cC:0≤C) (cF:0≤F) (e1:eE (A-D) B (-E) 0 C F=n1) (g1:decide (n1≥0)=false) (ea:eE (A-0) B (-0) 0 C 0=na) (g2:decide (na<0)=true) (eb:eE (D-0) E (-0) 0 F 0=nb) (g3:decide (nb>0)=false) (g4:decide (nb≤0)=true) (hz:Rz 6000000 z) (ob:Ok Tryz.prog 228 [.a ((cR (-D)++cR (-E)++cR F)),.a ((cR (-A)++cR (-B)++cR C))] [dR z]):Ok Tryz.prog 126 [.a ((cR A++cR B++cR C)),.a ((cR D++cR E++cR F))] [dR (-z),.c (.i .i64 0)]:=by
 have z0:Rz 2 (0:Rat):=eK (by decide)
 refine ex Tryz.func126 39 [.cell 4 38,.tmp 5] rfl<|ae<|ag<|ae<|ae<|bz<|bQ 2<|aW (cb rfl (bX (lk (hA.m_) (hB.m_) (hC.m_) (hD.m_) (hE.m_) (hF.m_) ((hA.sub hD).m_) cC cF) e1))<|aW (aU (ew rfl) g1) ?_
 refine bD<|bn rfl<|aB<|ae<|ag<|ac rfl ((show Ok Tryz.prog 70 [.c (.i .i64 0)] [dR 0] from fm (by omega) (by omega)))<|ae<|aP<|ae<|bz<|bQ 2<|aW (cb rfl (bX (dX (hA.m_) (hB.m_) (hC.m_) (z0.m_) ((hA.sub z0).m_) cC) ea))<|aW (aU (ew rfl) g2) ?_
 refine bQ 3<|aW (cb rfl (bX (dX (hD.m_) (hE.m_) (hF.m_) (z0.m_) ((hD.sub z0).m_) cF) eb))<|aW (aU (ew rfl) g3) ?_
 refine fL<|bn rfl<|ae<|bz<|bQ 2<|aW (cb rfl (bX (dX (hD.m_) (hE.m_) (hF.m_) (z0.m_) ((hD.sub z0).m_) cF) eb))<|aW (aU (ew rfl) g4) ?_
 refine fL<|dG rfl<|ae<|fb 6 [] ?_
 refine aC rfl (Do (hD.m_) (hE.m_)) ?_
 refine aC rfl (Do (hA.m_) (hB.m_)) ?_
 refine aC rfl (ob) ?_
 refine aC rfl (dD hz)<|a9 ?_
 exact ah (aQ aX rfl (ak aa))
theorem Y2 (hA:Rz 330 A) (hB:Rz 330 B) (hC:Rz 330 C) (hD:Rz 330 D) (hE:Rz 330 E) (hF:Rz 330 F) (_cC:0≤C) (_cF:0≤F) (e0:bd (A-0) B C=c0) (g0:decide (c0<0)=true) (f0:bd (D-0) E F=d0) (k0:decide (d0>0)=true):Ok Tryz.prog 269 [.a ((cR A++cR B++cR C)),.a ((cR D++cR E++cR F))] [dR 0]:=by
 have z0:Rz 2 (0:Rat):=eK (by decide)
 have h0:Rz 6000000 (0:Rat):=eK (by decide)
 refine ex uH 81 [.cell 4 38] rfl<|ae<|ag<|ae<|ag<|ac rfl ((show Ok Tryz.prog 18 [.c (.i .i64 1)] [dR 1] from dH (by omega) (by omega)))<|ac rfl ((show Ok Tryz.prog 18 [.c (.i .i64 0)] [dR 0] from dH (by omega) (by omega)))<|ae<|ae<|bz<|bQ 2<|aW (cb rfl (bX (bU (hA.m_) h0 ((hA.sub z0).m_) (hB.m_) (hC.m_)) e0))<|aW (aU (ew rfl) g0) ?_
 refine bQ 3<|aW (cb rfl (bX (bU (hD.m_) h0 ((hD.sub z0).m_) (hE.m_) (hF.m_)) f0))<|aW (aU (ew rfl) k0) ?_
 refine fL<|dG rfl<|ae<|ag ?_
 refine a9 ?_
 exact ah (aQ aX rfl aa)
structure Simp (a b:Re) (z:Rat):Prop where
 mem:tI a b z
 den: ∀p q:Int,0<q→tI a b (fr p q)→(z.den:Int)≤q
 near:z.den=1→z≠0→ ¬tI a b (z-((aw z 0:Int):Rat))
theorem Jy (z:Rat):(-z).den=z.den:=Rat.neg_den z
theorem TMin.simp (h:TMin (tI a b) P Q):Simp a b (fr P Q):=by
 obtain⟨e1,e2⟩:=h.den
 refine⟨h.mem,fun p q hq hm=>by rw[e2];exact(h.min p q hq hm).2,fun hd _ hm=>?_⟩
 have hp:=h.p
 have hQ:Q=1:=by rw[←e2,hd];rfl
 subst hQ
 have hf:=fZ (p:=P) (q:=1) (by decide)
 rw[LZ,s6] at hf
 rw[hf] at hm
 have hc:aw (P:Rat) 0=1:=by rw[←ca];exact uZ (nT hp)
 rw[hc,LZ] at hm
 have e3:fr (P-1) 1=(P:Rat)-1:=uM (by decide) (by rw[LZ,pi,s6,LZ])
 rw[←e3] at hm
 have:=(h.min (P-1) 1 (by decide) hm).1
 omega
theorem th (x:Rat):tI (-b) (-a) x↔tI a b (-x):=by
 have h1:Re.of x- -b=b-Re.of (-x):=ba fun k=>by simp only[ao,bg,aV];grind
 have h2: -a-Re.of x=Re.of (-x)-a:=ba fun k=>by simp only[ao,bg,aV];grind
 unfold tI
 grind
theorem VI {p q:Int}(h:0<q):fr (-p) q= -(fr p q):=uM h (by have:=fZ (p:=p) h;rw[qI];grind)
theorem Simp.neg (h:Simp (-b) (-a) z):Simp a b (-z):=by
 refine⟨(th z).1 h.mem,fun p q hq hm=>?_,fun hd hz hm=>?_⟩
 ·rw[Jy]
  refine h.den (-p) q hq ?_
  rw[VI hq,th,Rat.neg_neg];exact hm
 ·rw[Jy] at hd
  refine h.near hd (fun e=>hz (by rw[e];rfl)) ?_
  rw[th]
  have e:aw (-z) 0= -aw z 0:=by
   rw[←ca,←ca,←b8]
   exact congrArg aO (ba fun k=>by simp only[bg,aV])
  rw[e] at hm
  rw[show-(z-((aw z 0:Int):Rat))= -z-((-aw z 0:Int):Rat) from by rw[qI];grind]
  exact hm
theorem Vl.neg (h:Vl y z):Vl (-y) z:=⟨h.c0,fun e=>h.v fun e2=>e (by rw[e2];rfl),fun e=>h.z (by grind)⟩
section
variable {A B C D E F:Rat}
theorem BSt.start (v1:Vl B C) (v2:Vl E F) (a0:0≤aO (am A B C)) (ab:aO (am D E F-am A B C)=1) (VU:ck (am A B C) (Re.of ((pw 213:Int):Rat))) (WU:ck (am D E F) (Re.of ((pw 213:Int):Rat)))
 (gap:ck (Re.of (1/((pw (1710+1710):Int):Rat))) (am D E F-am A B C)):BSt (pw 213) 1710 A B C D E F 1 0 0 1 A B D E:=by
 have p7:=cH 213
 have p59:=cH 1710
 have b0:0≤aO (am D E F):=by
  rw[show am D E F=am A B C+(am D E F-am A B C) from ba fun k=>by simp only[ao,aI];grind]
  have:=jv a0 ab
  omega
 exact⟨Mob.init A B C,Mob.init D E F,v1,v2,by decide,by decide,by decide,by decide,p7,by omega,by omega,by omega,p59,a0,b0,VU,WU,.inr gap,a0,dW VU (o6 (lq (by decide))),ab,.inl ⟨rfl,rfl⟩⟩
theorem Xo (hA:Rz 113 A) (hB:Rz 21 B) (hC:Rz 78 C) (hD:Rz 113 D) (hE:Rz 21 E) (hF:Rz 78 F) (cC:0≤C) (cF:0≤F) (ab:aO (am D E F-am A B C)=1):ck (Re.of (1/((pw (1710+1710):Int):Rat))) (am D E F-am A B C):=by
 have e:jo (D-A) E (-B) 0 F C=am D E F-am A B C:=ba fun k=>by simp only[jo,am,ao,aI,aD,aV];grind
 have h:=aa0 (hD.sub hA) hE hB.neg hF hC cF cC (by rw[e];exact ab)
 rw[e] at h
 exact dW (of_le (Jd (by decide))) h
theorem P6 (hA:Rz 113 A) (hB:Rz 21 B) (hC:Rz 78 C) (cC:0≤C):ck (am A B C) (Re.of ((pw 213:Int):Rat))∧ck (-(am A B C)) (Re.of ((pw 213:Int):Rat)):=Eu hA hB hC cC (E2 113 21 78)
theorem BSt.go (hA:Rz 330 A) (hB:Rz 330 B) (hC:Rz 330 C) (hD:Rz 330 D) (hE:Rz 330 E) (hF:Rz 330 F) (S:BSt (pw 213) 1710 A B C D E F 1 0 0 1 A B D E): ∃P Q:Int,Res A B C D E F P Q∧TMin (tI (am A B C) (am D E F)) P Q∧Rz 6841 (fr P Q):=by
 obtain⟨P,Q,R,T⟩:=S.res hA hB hC hD hE hF (3*pw 1710).toNat (by have:=cH 1710;omega)
 obtain⟨t1,t2⟩:=T.bound S.v1 S.au S.gap
 have t3:pw (1710+1710+1)≤pw (1710+1710+(1710+1710)+1):=lq (by decide)
 exact⟨P,Q,R,T,T.rz t1 (Int.lt_of_lt_of_le t2 t3)⟩
theorem RN (T:TMin (tI (-b) (-a)) P Q) (T2:TMin (tI (a-Re.of (n:Rat)) (b-Re.of (n:Rat))) P2 Q2) (a0:ck (Re.of (n:Rat)) a) (b1:ck b (Re.of ((n+1:Int):Rat))): -(fr P Q)=(n:Rat)+fr P2 Q2:=by
 have sh: ∀x:Rat,tI (a-Re.of (n:Rat)) (b-Re.of (n:Rat)) x↔tI a b ((n:Rat)+x):=by
  intro x
  have h1:Re.of x-(a-Re.of (n:Rat))=Re.of ((n:Rat)+x)-a:=ba fun k=>by simp only[ao,aV];grind
  have h2:b-Re.of (n:Rat)-Re.of x=b-Re.of ((n:Rat)+x):=ba fun k=>by simp only[ao,aV];grind
  unfold tI
  rw[h1,h2]
 have hq:=T.q
 have hq2:=T2.q
 have f1:=fZ (p:=P) hq
 have f2:=fZ (p:=P2) hq2
 have e2:fr (-(n*Q2)-P2) Q2= -((n:Rat)+fr P2 Q2):=uM hq2 (by rw[pi,qI,fE,←f2];grind)
 have e1:fr (-P-n*Q) Q= -(fr P Q)-(n:Rat):=uM hq (by rw[pi,qI,fE,←f1];grind)
 have m2:tI (-b) (-a) (fr (-(n*Q2)-P2) Q2):=by
  rw[e2,th,Rat.neg_neg]
  exact(sh _).1 T2.mem
 have m1:tI (a-Re.of (n:Rat)) (b-Re.of (n:Rat)) (fr (-P-n*Q) Q):=by
  rw[e1,sh,show(n:Rat)+(-(fr P Q)-(n:Rat))= -(fr P Q) by grind]
  exact(th _).1 T.mem
 have g1:=(T.min _ _ hq2 m2).2
 have g2:=(T2.min _ _ hq m1).2
 have hQ:Q2=Q:=by omega
 subst hQ
 by_cases h1:Q2=1
 ·exfalso
  subst h1
  obtain⟨i1,i2⟩:=(sh _).1 T2.mem
  have k1:=pq a0 i1
  rw[LZ,s6] at f2
  rw[f2] at k1 i2
  have k2:((n+P2:Int):Rat)≤((n+1:Int):Rat):=by
   rw[iE]
   exact fN (dW (by unfold ck;omega) b1)
  have k3:=ef.1 k2
  have k4:((n:Int):Rat)<((n+P2:Int):Rat):=by grind
  have k5:=iv.1 k4
  have k6:P2=1:=by omega
  subst k6
  have k7:0≤aO (Re.of ((n:Rat)+((1:Int):Rat))-b):=by
   rw[←iE];exact b1
  rw[d7,i2] at k7
  omega
 ·have hc: ∀x y z:Rat,tI (-b) (-a) x→tI (-b) (-a) y→x≤z→z≤y→tI (-b) (-a) z:=by
   intro x y z hx hy hxz hzy
   refine⟨?_,?_⟩
   ·rw[show Re.of z- -b=(Re.of z-Re.of x)+(Re.of x- -b) from ba fun k=>by simp only[ao,aI];grind]
    exact jv (of_le hxz) hx.1
   ·rw[show-a-Re.of z=(Re.of y-Re.of z)+(-a-Re.of y) from ba fun k=>by simp only[ao,aI];grind]
    exact jv (of_le hzy) hy.2
  have hk:=Lp hc (by omega) T.mem m2 fun p q hq hm=>(T.min p q hq hm).2
  rw[hk,e2,Rat.neg_neg]
theorem KD {z:Int}(hb:aO (b-Re.of (z:Rat))=1) (hl: ∀k:Int,aO (b-Re.of (k:Rat))=1→k≤z) (ha:aO (Re.of (z:Rat)-a)=1) (T:TMin (tI (-b) (-a)) P Q): -(fr P Q)=(z:Rat):=by
 have e:fr (-z) 1= -(z:Rat):=uM (by decide) (by rw[LZ,qI,s6])
 obtain⟨m1,m2⟩:=T.min (-z) 1 (by decide) (by rw[e,th,Rat.neg_neg];exact⟨ha,hb⟩)
 have hq:=T.q
 have hQ:Q=1:=by omega
 subst hQ
 have hf:=fZ (p:=P) (q:=1) (by decide)
 rw[LZ,s6] at hf
 have hm:=(th _).1 T.mem
 rw[hf,←qI] at hm
 have:=hl _ hm.2
 grind
theorem rz8 (h1: -pw 213≤n+1) (h2:n≤0):Sz 214 n:=by
 have h3:pw 213+1<pw 214:=AS 213
 exact⟨by omega,by omega⟩
theorem PC (L:Lv A B C D E F n) (aN:aO (am A B C)<0) (bN:aO (am D E F)≤0) (hb:aO (am D E F-Re.of ((n+1:Int):Rat))≤0) (R:Res (A-(n:Rat)) B C (D-(n:Rat)) E F P2 Q2) (x1:aO (Re.of ((n+1:Int):Rat)-am A B C)=1):
 Ok Tryz.prog 269 [.a (cR A++cR B++cR C),.a (cR D++cR E++cR F)] [dR ((n:Rat)+fr P2 Q2)]:=by
 have c0:((0:Int):Rat)=0:=rfl
 have nz: ∀ {k:Int},Lv (A-(n:Rat)) B C (D-(n:Rat)) E F k→0≤aO (am (A-(n:Rat)) B C)→k=0:=by
  intro k L2 a0
  have f1:ck (Re.of ((nK (A-(n:Rat)) B C:Int):Rat)) (am (A-(n:Rat)) B C):=(sC L2.v1.c0).1
  have f2:=ud (x:=A-(n:Rat)) (y:=B) L2.v1.c0 L2.v1.v
  rw[←L2.nf] at f1 f2
  have k1:=pq (n:=0) (xC a0) f2
  have k2:=iv.1 k1
  have x2:aO (Re.of ((1:Int):Rat)-am (A-(n:Rat)) B C)=1:=by
   rw[show Re.of ((1:Int):Rat)-am (A-(n:Rat)) B C=Re.of ((n+1:Int):Rat)-am A B C from ba fun k=>by
    simp only[am,ao,aI,aD,aV,iE];grind];exact x1
  have k3:=pq f1 x2
  have k4:=iv.1 k3
  omega
 have eD:D-(n:Rat)-((0:Int):Rat)=D-(n:Rat):=by rw[c0];grind
 have eA:A-(n:Rat)-((0:Int):Rat)=A-(n:Rat):=by rw[c0];grind
 have o0:Re.of ((0:Int):Rat)=Re.of 0:=rfl
 have hg:decide (bd (D-((n:Rat)+1)) E F>0)=false:=decide_eq_false (by rw[sx L.v2.c0,←Ak];omega)
 cases R with
 |whole L2 a0 h=>
  exfalso
  have e:=nz L2 a0
  subst e
  rw[show am (D-(n:Rat)) E F-Re.of ((0+1:Int):Rat)=am D E F-Re.of ((n+1:Int):Rat) from ba fun k=>by
   simp only[am,ao,aI,aD,aV,iE,c0];grind] at h
  omega
 | @last _ _ _ _ _ _ w k m L2 a0 h hbn hz hw hm tA tB m0 mz=>
   have e:=nz L2 a0
   subst e
   rw[eD] at hw hm tA
   rw[o0,Ta] at hz
   have oT:=vC (tA.mono (by decide)) (tB.mono (by decide)) L.kF (ML L.v2 hw)
   rw[←hm] at oT
   rw[E8 0 m0,c0,Rat.zero_add]
   exact XZ L (lW L.v1.c0) (decide_eq_true aN) (decide_eq_false (by omega)) (lW L.v2.c0) (decide_eq_false (by omega)) L.flA rfl hg (L.sh.trans (by rw[←fI,hz])) (d:=0) rfl hw mz oT (Pz m0)
 | @step _ _ _ _ _ _ w1 w2 k P Q L2 a0 h hbn hz hw1 hw2 R p0 q0 z=>
   have e:=nz L2 a0
   subst e
   rw[eD] at hw2 R
   rw[eA] at hw1 R
   rw[o0,Ta] at hz
   rw[vj p0 q0,c0,Rat.zero_add]
   exact Xm L (lW L.v1.c0) (decide_eq_true aN) (decide_eq_false (by omega)) (lW L.v2.c0) (decide_eq_false (by omega)) L.flA rfl hg (L.sh.trans (by rw[←fI,hz])) (d:=1) rfl hw2 hw1 (Pc R) z (Oq p0 q0)
theorem OG (hA:Rz 113 A) (hB:Rz 21 B) (hC:Rz 78 C) (hD:Rz 113 D) (hE:Rz 21 E) (hF:Rz 78 F) (v1:Vl B C) (v2:Vl E F) (ab:aO (am D E F-am A B C)=1):
 ∃z:Rat,Rz 6841 z∧Ok Tryz.prog 126 [.a (cR A++cR B++cR C),.a (cR D++cR E++cR F)] [dR z,.c (.i .i64 0)]∧
  Ok Tryz.prog 269 [.a (cR A++cR B++cR C),.a (cR D++cR E++cR F)] [dR z]∧Simp (am A B C) (am D E F) z:=by
 have mA:Rz 330 A:=hA.mono (by decide)
 have mB:Rz 330 B:=hB.mono (by decide)
 have mC:Rz 330 C:=hC.mono (by decide)
 have mD:Rz 330 D:=hD.mono (by decide)
 have mE:Rz 330 E:=hE.mono (by decide)
 have mF:Rz 330 F:=hF.mono (by decide)
 have gap:=Xo hA hB hC hD hE hF v1.c0 v2.c0 ab
 obtain⟨uA,lA⟩:=P6 hA hB hC v1.c0
 obtain⟨uD,lD⟩:=P6 hD hE hF v2.c0
 have e1:eE (A-D) B (-E) 0 C F=aO (am A B C-am D E F):=mW v1.c0 v2.c0
 have g1:decide (aO (am A B C-am D E F)≥0)=false:=decide_eq_false (by rw[d7,ab];decide)
 have ea:eE (A-0) B (-0) 0 C 0=aO (am A B C):=by rw[wO v1.c0,Ta]
 have eb:eE (D-0) E (-0) 0 F 0=aO (am D E F):=by rw[wO v2.c0,Ta]
 by_cases aN:aO (am A B C)<0
 ·by_cases bP:aO (am D E F)>0
  ·--0 lies between
   have i1:tI (am A B C) (am D E F) 0:=by
    refine⟨?_,?_⟩
    ·rw[d7,Ta];have:=bp (am A B C);omega
    ·rw[Ta];have:=bp (am D E F);omega
   exact⟨0,eK (by decide),aac mA mB mC mD mE mF v1.c0 v2.c0 e1 g1 ea (decide_eq_true aN) eb (decide_eq_true bP),Y2 mA mB mC mD mE mF v1.c0 v2.c0 (lW v1.c0) (decide_eq_true aN) (lW v2.c0) (decide_eq_true bP),⟨i1,fun p q hq _=>by rw[Rat.zero_den];exact hq,fun _ h _=>h rfl⟩⟩
  ·--both are not positive
   have bN:aO (am D E F)≤0:=by omega
   have nb0:0≤aO (am (-D) (-E) F):=by rw[jg,b8];omega
   have nab:aO (am (-A) (-B) C-am (-D) (-E) F)=1:=by
    rw[jg,jg,show-(am A B C)- -(am D E F)=am D E F-am A B C from ba fun k=>by simp only[ao,bg];grind];exact ab
   have ngap:ck (Re.of (1/((pw (1710+1710):Int):Rat))) (am (-A) (-B) C-am (-D) (-E) F):=by
    rw[jg,jg,show-(am A B C)- -(am D E F)=am D E F-am A B C from ba fun k=>by simp only[ao,bg];grind];exact gap
   obtain⟨P,Q,R,T,z⟩:=(BSt.start v2.neg v1.neg nb0 nab (by rw[jg];exact lD) (by rw[jg];exact lA) ngap).go mD.neg mE.neg mF mA.neg mB.neg mC
   rw[jg,jg] at T
   have oP:=ZL mA mB mC mD mE mF v1.c0 v2.c0 e1 g1 ea (decide_eq_true aN) eb (decide_eq_false bP) (decide_eq_true bN) (z.mono (by decide)) (QM R)
   refine⟨-(fr P Q),z.neg,oP,?_,T.simp.neg⟩
   have f1:ck (Re.of ((nK A B C:Int):Rat)) (am A B C):=(sC v1.c0).1
   have f2:=ud (x:=A) (y:=B) v1.c0 v1.v
   have hn1:nK A B C≤0:=by
    have h0:ck (am A B C) (Re.of ((0:Int):Rat)):=by
     show 0≤aO (Re.of 0-am A B C)
     rw[d7,Ta];omega
    exact ef.1 (fN (dW f1 h0))
   have hn2: -pw 213≤nK A B C+1:=by
    have h0:ck (Re.of ((-pw 213:Int):Rat)) (am A B C):=by
     refine j7 (fun k=>?_) lA
     simp only[ao,bg,aV,qI];grind
    have:=iv.1 (pq h0 f2)
    omega
   have nz:=rz8 hn2 hn1
   have L:Lv A B C D E F (nK A B C):=⟨hA.mono (by decide),hB.mono (by decide),mC,hD.mono (by decide),hE.mono (by decide),mF,v1,v2,ab,rfl,nz.mono (by decide)⟩
   generalize nK A B C=n at*
   by_cases hb:aO (am D E F-Re.of ((n+1:Int):Rat))=1
   ·have hg:decide (bd (D-((n:Rat)+1)) E F>0)=true:=decide_eq_true (by rw[sx v2.c0,←Ak,hb];decide)
    have q1:ck (Re.of ((nK D E F:Int):Rat)) (am D E F):=(sC v2.c0).1
    have q2:=ud (x:=D) (y:=E) v2.c0 v2.v
    have hm1:n+1<nK D E F+1:=by
     have h0:ck (Re.of ((n+1:Int):Rat)) (am D E F):=by unfold ck;omega
     exact iv.1 (pq h0 q2)
    have hm2:nK D E F≤0:=by
     have h0:ck (am D E F) (Re.of ((0:Int):Rat)):=by
      show 0≤aO (Re.of 0-am D E F)
      rw[d7,Ta];omega
     exact ef.1 (fN (dW q1 h0))
    have oT:Ok Tryz.prog 337 [.a (cR D++cR E++cR F)] [dR ((nK D E F:Int):Rat)]:=vC L.kD L.kE L.kF v2
    generalize nK D E F=m at*
    have mz:Sz 3421 m:=(rz8 (by omega) hm2).mono (by decide)
    have up: ∀k:Int,n+1≤k→aO (Re.of (k:Rat)-am A B C)=1:=by
     intro k hk
     rw[show Re.of (k:Rat)-am A B C=(Re.of (k:Rat)-Re.of ((n+1:Int):Rat))+(Re.of ((n+1:Int):Rat)-am A B C) from ba fun k=>by simp only[ao,aI];grind]
     exact jv (o6 hk) f2
    by_cases he:aO (am D E F-Re.of (m:Rat))=0
    ·have hlt:n+1<m:=by
      have h0:ck (am D E F) (Re.of (m:Rat)):=by unfold ck;rw[d7];omega
      have h1:aO (Re.of (m:Rat)-Re.of ((n+1:Int):Rat))=1:=by
       rw[show Re.of (m:Rat)-Re.of ((n+1:Int):Rat)=(Re.of (m:Rat)-am D E F)+(am D E F-Re.of ((n+1:Int):Rat)) from ba fun k=>by simp only[ao,aI];grind]
       exact jv h0 hb
      exact iv.1 (pq (gh _) h1)
     have eI:=KD (z:=m-1) (b:=am D E F) (a:=am A B C) (by
      rw[show am D E F-Re.of ((m-1:Int):Rat)=(am D E F-Re.of (m:Rat))+Re.of 1 from ba fun k=>by simp only[ao,aI,aV,pi,LZ];grind]
      exact jv (by omega) (uZ (by decide))) (fun k hk=>by
       have h1:aO (Re.of (m:Rat)-Re.of (k:Rat))=1:=by
        rw[show Re.of (m:Rat)-Re.of (k:Rat)=(Re.of (m:Rat)-am D E F)+(am D E F-Re.of (k:Rat)) from ba fun k=>by simp only[ao,aI];grind]
        exact jv (by rw[d7];omega) hk
       have:=iv.1 (pq (gh _) h1)
       omega) (up _ (by omega)) T
     rw[eI,pi,LZ]
     exact Th L (lW v1.c0) (decide_eq_true aN) (decide_eq_false (by omega)) (lW v2.c0) (decide_eq_false (by omega)) L.flA rfl hg mz oT ((sx v2.c0).trans he) rfl
    ·have hp:aO (am D E F-Re.of (m:Rat))=1:=by
      have h0:0≤aO (am D E F-Re.of (m:Rat)):=q1
      have:=bp (am D E F-Re.of (m:Rat))
      omega
     have eI:=KD (z:=m) (b:=am D E F) (a:=am A B C) hp (fun k hk=>by
      have h0:ck (Re.of (k:Rat)) (am D E F):=by unfold ck;omega
      have:=iv.1 (pq h0 q2)
      omega) (up _ (by omega)) T
     rw[eI]
     exact QU L (lW v1.c0) (decide_eq_true aN) (decide_eq_false (by omega)) (lW v2.c0) (decide_eq_false (by omega)) L.flA rfl hg mz oT ((sx v2.c0).trans hp) rfl
   ·have hb':aO (am D E F-Re.of ((n+1:Int):Rat))≤0:=by have:=bp (am D E F-Re.of ((n+1:Int):Rat));omega
    have b1:ck (am D E F) (Re.of ((n+1:Int):Rat)):=by unfold ck;rw[d7];omega
    have sA:Rz 330 (A-(n:Rat)):=(hA.sub (dm nz (by decide))).mono (by decide)
    have sD:Rz 330 (D-(n:Rat)):=(hD.sub (dm nz (by decide))).mono (by decide)
    have one7:ck (Re.of 1) (Re.of ((pw 213:Int):Rat)):=by
     have:=o6 (cH 213)
     exact this
    have xab:aO (am (D-(n:Rat)) E F-am (A-(n:Rat)) B C)=1:=by
     rw[fI,fI,show am D E F-Re.of (n:Rat)-(am A B C-Re.of (n:Rat))=am D E F-am A B C from ba fun k=>by simp only[ao];grind];exact ab
    have xgap:ck (Re.of (1/((pw (1710+1710):Int):Rat))) (am (D-(n:Rat)) E F-am (A-(n:Rat)) B C):=by
     rw[fI,fI,show am D E F-Re.of (n:Rat)-(am A B C-Re.of (n:Rat))=am D E F-am A B C from ba fun k=>by simp only[ao];grind];exact gap
    have x0:0≤aO (am (A-(n:Rat)) B C):=by rw[fI];exact f1
    have y1:ck (am (D-(n:Rat)) E F) (Re.of 1):=by rw[fI];exact BC (n:=n) b1 (gh _)
    have a1:ck (am (A-(n:Rat)) B C) (Re.of 1):=dW (by unfold ck;omega) y1
    obtain⟨P2,Q2,R2,T2,_⟩:=(BSt.start v1 v2 x0 xab (dW a1 one7) (dW y1 one7) xgap).go sA mB mC sD mE mF
    rw[fI,fI] at T2
    rw[RN T T2 f1 b1]
    exact PC L aN bN hb' R2 f2
 ·--both are not negative
  have a0:0≤aO (am A B C):=by omega
  have b0: ¬aO (am D E F)≤0:=by
   have h:=jv a0 ab
   rw[show am A B C+(am D E F-am A B C)=am D E F from ba fun k=>by simp only[ao,aI];grind] at h
   omega
  obtain⟨P,Q,R,T,z⟩:=(BSt.start v1 v2 a0 ab uA uD gap).go mA mB mC mD mE mF
  exact⟨fr P Q,z,Zt mA mB mC mD mE mF v1.c0 v2.c0 e1 g1 ea (decide_eq_false aN) eb (decide_eq_false b0) (QM R),Pc R,T.simp⟩
end
theorem Zv (g:GP p):Vl p.b1 (zc p.b1 p.c):=by
 have hv:=g.v
 unfold tZ at hv
 refine⟨jW (b9 g),fun hb=>?_,fun hb=>EM hb⟩
 rw[nF hb]
 grind
theorem JI {c:Cv}(vc:CvV c) (hm:c.mono=true) (nv:c.vert=false):cx c.p c.q<0:=by
 cases c with
 |seg l f t=>
  have h1:cP f t<0:=by
   have h:(!decide (cP f t≥0))=true:=hm
   grind
  have h2:cx f t≠0:=by
   have h:(cx f t==0)=false:=nv
   grind
  have:=L3 h2
  show cx f t<0
  omega
 |arc k w f t=>
  have h:=Mv vc.g.1 vc.pos ⟨vc.g.2.1,bH.1 vc.sp⟩ ⟨vc.g.2.2,bH.1 vc.sq⟩ hm
  have ha:=de (b9 vc.g.2.1) (b9 vc.g.2.2)
  show cx f t<0
  cases w with
  |true=>have h:=h.2.2;omega
  |false=>have h:=h.2.2;omega
theorem Tw {c:Cv}(nc:c.vert=false) (h1:jm c.p x<0) (h2:0<jm c.q x):wH c x=true:=by
 unfold wH
 grind
section
variable {p q:Pt}(gp:GP p) (gq:GP q)
include gp gq
theorem QC (h:cx p q≤0) (h2:0<jm p x):0<jm q x:=by
 rw[n8 (b9 gp) (b9 gq),d7] at h
 rw[nC (b9 gp)] at h2
 rw[nC (b9 gq),show pX q-Re.of x=(pX q-pX p)+(pX p-Re.of x) from ba fun k=>by simp only[ao,aI];grind,jv (by omega) (by have:=bp (pX p-Re.of x);omega)]
 grind
theorem Ov (h:cx p q≤0) (h2:jm q x<0):jm p x<0:=by
 rw[n8 (b9 gp) (b9 gq),d7] at h
 rw[nC (b9 gq),d7] at h2
 rw[nC (b9 gp),d7,show Re.of x-pX p=(pX q-pX p)+(Re.of x-pX q) from ba fun k=>by simp only[ao,aI];grind,jv (by omega) (by have:=bp (Re.of x-pX q);omega)]
 grind
theorem TK:cx q p= -cx p q:=de (b9 gp) (b9 gq)
end
theorem I3 {c:Cv}(vc:CvV c) (hx:Rz 6841 x) (hb:wH c x=true):(Rz 40000 (t8 c x).a2∧Rz 40000 (t8 c x).b2∧Rz 40000 (t8 c x).c)∧tZ (t8 c x).b1 (t8 c x).b2 (t8 c x).c=true:=by
 unfold wH at hb
 rw[dF,dF] at hb
 have v0:tZ 0 0 0=true:=by unfold tZ;rw[if_pos ⟨rfl,rfl⟩];exact decide_eq_true rfl
 cases c with
 |seg l f t=>
  have sf:z9 l f=0:=by have:=vc.sp;simpa [Cv.supp,Cv.p] using this
  have st:z9 l t=0:=by have:=vc.sq;simpa [Cv.supp,Cv.q] using this
  have hv:=Iq vc.g.1 vc.g.2.1 vc.g.2.2 sf st vc.ne
  have hb0:l.b≠0:=fun e=>by
   have h1:(!(cx f t==0))=true:=hb.1
   rw[hv.2 e] at h1;cases h1
  exact⟨⟨((vc.g.1.c.sub (vc.g.1.a.mul hx)).div vc.g.1.b hb0).mono (by decide),eK (by decide),eK (by decide)⟩,v0⟩
 |arc k w f t=>
  have h0:=Cr ⟨vc.g.2.1,bH.1 vc.sp⟩ ⟨vc.g.2.2,bH.1 vc.sq⟩ (of_decide_eq_true hb.2.1) (of_decide_eq_true hb.2.2)
  have hk:GK k:=vc.g.1
  have hs:Rz 14000 (jZ k x):=(hk.q.sub ((hx.sub hk.x).mul (hx.sub hk.x))).mono (by decide)
  cases e:iC (jZ k x) with
  |true=>
   rw[show t8 (.arc k w f t) x=⟨x+0*rt (jZ k x),0,k.y+sW w*rt (jZ k x),0,0⟩ from if_pos e]
   exact⟨⟨(hk.y.add ((wD w).mul hs.rt)).mono (by decide),eK (by decide),eK (by decide)⟩,v0⟩
  |false=>
   rw[show t8 (.arc k w f t) x=⟨x,0,k.y,sW w,jZ k x⟩ from if_neg (by rw[e];decide)]
   refine⟨⟨hk.y.mono (by decide),(wD w).mono (by decide),hs.mono (by decide)⟩,?_⟩
   have hp:0<jZ k x:=by have:=Qe e;grind
   show tZ 0 (sW w) (jZ k x)=true
   unfold tZ
   rw[if_neg (fun g=>JR w g.2),e,decide_eq_true hp];rfl
theorem YO {c:Cv}(vc:CvV c) (hx:Rz 6841 x) (hb:wH c x=true):Ok Tryz.prog 129 [.a ((cR x++cR 0++cR 0)),.a (TG c x)] [.a (ai (t8 c x)),.c (.i .i64 0)]:=by
 obtain⟨⟨_,_,h3⟩,hv⟩:=I3 vc hx hb
 obtain⟨ea,eb⟩:=PI c x
 rw[T8]
 exact Fk (xF (eK (by decide)) ((gw h3 (by decide)).mono (by decide)) (fun h=>h.1 rfl)) ea eb rfl rfl (Ph hv eb)
theorem Xf {c:Cv}(vc:CvV c) (hx:Rz 6841 x) (hb:wH c x=true):Ok Tryz.prog 270 [.a ((cR x++cR 0++cR 0)),.a (TG c x)] [.a (ai (t8 c x)),.c (.i .i64 0)]:=by
 obtain⟨⟨_,_,h3⟩,hv⟩:=I3 vc hx hb
 obtain⟨ea,eb⟩:=PI c x
 rw[T8]
 exact Fk (I8 (eK (by decide)) ((gw h3 (by decide)).mono (by decide)) (fun h=>h.1 rfl)) ea eb rfl rfl (Ph hv eb)
theorem YY (vc:CvV (.arc k false f t)) (ea:(Cv.arc k false f t).inner (fY k)=false) (eb:(Cv.arc k false f t).inner (fR k)=false) (hx:Rz 6841 x) (bb:wH (Cv.arc k false f t).fwd x=true) (hB:Ok Tryz.prog 126 [.a ((cR (((Cv.arc k false f t).fwd.p).a1)++cR (((Cv.arc k false f t).fwd.p).b1)++cR (zc ((Cv.arc k false f t).fwd.p).b1 ((Cv.arc k false f t).fwd.p).c))),.a ((cR (((Cv.arc k false f t).fwd.q).a1)++cR (((Cv.arc k false f t).fwd.q).b1)++cR (zc ((Cv.arc k false f t).fwd.q).b1 ((Cv.arc k false f t).fwd.q).c)))] [dR x,.c (.i .i64 0)]):Ok Tryz.prog 43 [.a (([.b true]++mw++bo k++[.b false]++ai f++ai t))] [.a (ai (((t8 (Cv.arc k false f t).fwd x))))]:=by
 have vc9:CvV (Cv.arc k false f t).fwd:=H0 vc
 refine ex Tryz.func43 48 [.cell 2 47] rfl<|ae<|ag<|ae<|ag ?_
 refine ar (fU bT rfl) ?_
 refine ac rfl (YB vc ea eb) ?_
 refine ar (bK (us:=aG (Cv.arc k false f t).fwd++[]) lB rfl rfl (by simp) (aM aj _) (iH aj (j:=0) (eh (d:=bL) (show 0<([(Cv.arc k false f t).fwd]:List Cv).length from Nat.one_pos))) rfl) ?_
 refine ar (qh aj bT rfl)<|nM (du bT rfl rfl rfl (aj _) rfl rfl) ?_
 refine ae<|fb 13 [4,999999] ?_
 refine aq (cg (us:=ai ((Cv.arc k false f t).fwd).p) bE rfl rfl (qa _) rfl rfl) ?_
 refine aC rfl (p6) ?_
 refine aq (cg (us:=ai ((Cv.arc k false f t).fwd).q) bE rfl rfl (uu _) rfl rfl) ?_
 refine aC rfl (p6)<|aC rfl (hB) ?_
 refine DQ.mk<|fp (dL aX rfl) rfl rfl rfl rfl<|dc ?_
 refine ae<|ae<|ag<|bn rfl<|aB<|ae<|bz<|aW (oG (aj _) bT rfl)<|bQ 1<|aW (cb rfl ((by have h9:=Vy vc9 (hx.m_);rw[if_pos bb] at h9;exact h9))) ?_
 refine bQ 3<|uX (jR js rfl) rfl<|iu (du cG rfl rfl rfl (AN _ _) rfl rfl) ?_
 refine fL<|ae<|ae<|ag<|bn rfl<|aB<|ae<|sU 10 [7,999999] il (by kernel_rfl) rfl rfl<|cE 1<|bh (cb rfl (fT))<|bh (oG (AN _ _) cG rfl)<|bh (cb rfl (YO vc9 hx bb))<|cE 3<|zr (jR z8 rfl) rfl ?_
 refine fp (dL bE rfl) rfl rfl rfl rfl<|Aq<|z7<|bD<|ae<|ae<|ag<|bn rfl<|aB<|ae<|ag ?_
 refine a9 ?_
 exact ah (aQ bE rfl aa)
theorem XT {d:Cv}(vd:CvV d) (hv:d.vert=false) (hx:Rz 6841 x) (bb:wH d x=true) (hB:Ok Tryz.prog 269 [.a ((cR d.p.a1++cR d.p.b1++cR (zc d.p.b1 d.p.c))),.a ((cR d.q.a1++cR d.q.b1++cR (zc d.q.b1 d.q.c)))] [dR x]):Ok Tryz.prog 148 [.a (aG d)] [.a (ai (t8 d x))]:=by
 refine ex Tryz.func148 51 [.cell 2 47] rfl<|ae<|ag<|ae<|ae<|ag ?_
 refine ar (oG (aj _) bT rfl) ?_
 refine ac rfl ((by have h9:=XU vd;rw[hv] at h9;exact h9)) ?_
 refine bn rfl<|aB<|ae<|fb 8 [] ?_
 refine aq (cg (us:=ai d.p) bE rfl rfl (qa _) rfl rfl) ?_
 refine aC rfl (n5) ?_
 refine aq (cg (us:=ai d.q) bE rfl rfl (uu _) rfl rfl) ?_
 refine aC rfl (n5)<|aC rfl (hB)<|ae<|bz<|aW (oG (aj _) bT rfl)<|bQ 1<|aW (cb rfl ((by have h9:=U6 vd (hx.m_);rw[if_pos bb] at h9;exact h9))) ?_
 refine bQ 3<|uX (jR js rfl) rfl<|iu (du cG rfl rfl rfl (AN _ _) rfl rfl) ?_
 refine fL<|ae<|sU 10 [9,999999] il (by kernel_rfl) rfl rfl<|cE 1<|bh (cb rfl (eF))<|bh (oG (AN _ _) cG rfl)<|bh (cb rfl (Xf vd hx bb))<|cE 3<|zr (jR z8 rfl) rfl<|fp (dL bE rfl) rfl rfl rfl rfl<|Aq<|z7<|bD<|ae ?_
 refine ag ?_
 refine a9 ?_
 exact ah (aQ bE rfl aa)
theorem Xs {c:Cv}(vc:CvV c) (hv:c.fwd.vert=false) (hx:Rz 6841 x) (bb:wH c.fwd x=true) (hB:Ok Tryz.prog 269 [.a ((cR c.fwd.p.a1++cR c.fwd.p.b1++cR (zc c.fwd.p.b1 c.fwd.p.c))),.a ((cR c.fwd.q.a1++cR c.fwd.q.b1++cR (zc c.fwd.q.b1 c.fwd.q.c)))] [dR x]):Ok Tryz.prog 56 [.a (aG c)] [.a (ai (t8 c.fwd x))]:=by
 have v9:CvV c.fwd:=H0 vc
 have h16:=XT v9 hv hx bb hB
 refine bW Tryz.func56 rfl<|ar (cg (us:=ai c.p) bE rfl rfl (qa _) rfl rfl) ?_
 refine ar (cg (us:=ai c.q) bE rfl rfl (uu _) rfl rfl) ?_
 refine ac rfl (E6 (jK vc.g) (s8 vc.g)) ?_
 refine df rfl (fun hc1=>?_) (fun hc1=>?_)
 ·have g0:=HE hc1
  refine ar (oG (aj _) bT rfl)<|ac rfl (Wq vc) ?_
  refine nM (du bT rfl rfl rfl (aj _) (aj _) rfl) ?_
  refine ar (oG (aj _) bT rfl)<|ac rfl ((Eq.subst (motive:=fun z=>Ok _ _ [.a z] _) (congrArg aG g0) h16)) ?_
  exact ah (aQ bE rfl aa)
 ·have g0:=HU hc1
  refine ar (oG (aj _) bT rfl)<|ac rfl ((Eq.subst (motive:=fun z=>Ok _ _ [.a z] _) (congrArg aG g0) h16)) ?_
  exact ah (aQ bE rfl aa)
def hvA (k:Ci):Cv:=.arc k false (fY k) (fR k)
def hvB (k:Ci):Cv:=.arc k false (fR k) (fY k)
structure Sim (k:Ci) (P R:List Cv):Prop where
 len:P.length=R.length
 two:2≤P.length
 at_: ∀i,i<P.length→ ∃a b a' b':Pt,P.getD i bL=.arc k false a b∧R.getD i bL=.arc k false a' b'∧(OnK k a∧OnK k b)∧(OnK k a'∧OnK k b')∧cP a a'=0∧cP b b'=0∧cP a b≠0∧
  (∀x,x=fY k∨x=fR k→(Cv.arc k false a b).inner x=false∧(Cv.arc k false a' b').inner x=false)
 nxt: ∀i,i<P.length→(P.getD i bL).q=(P.getD ((i+1)%P.length) bL).p
 dis: ∀i j,i<j→j<P.length→cP (P.getD i bL).p (P.getD j bL).p≠0
section
variable {k:Ci}(hk:GK k) (h0:0<k.q)
include hk h0
theorem T4:CvV (hvA k):=⟨⟨hk,qZ hk h0,q5 hk h0⟩,h0,bH.2 (Fb hk h0),bH.2 (Ex hk h0),T6 hk h0⟩
theorem Uq:CvV (hvB k):=⟨⟨hk,q5 hk h0,qZ hk h0⟩,h0,bH.2 (Ex hk h0),bH.2 (Fb hk h0),fun e=>T6 hk h0 (m7 (b9 (q5 hk h0)) (b9 (qZ hk h0)) e)⟩
theorem XH {x:Pt}(ox:OnK k x) (h:(hvA k).ord x (fR k)<0):j6 k x=false:=by
 have hx:ru k (fY k) x (fR k)<0:=h
 have a1:=pT hk h0 ox
 have a2:=nU hk h0 ox
 have a3:=nU hk h0 (nO hk h0)
 have b1:=de (a7 ox) (a7 (nO hk h0))
 have b2:=de (a7 ox) (a7 (nL hk h0))
 rw[gM,fv,fv,fv,sO h0,sE h0,a3,sO h0,show cx x (fY k)= -(cx (fY k) x) from by omega,show cx x (fR k)= -(cx (fR k) x) from by omega,a1,a2] at hx
 rw[fv]
 revert hx
 generalize kd k x=j
 revert j
 decide
theorem WJ {x:Pt}(ox:OnK k x) (h:(hvB k).ord x (fY k)<0):j6 k x=true:=by
 have hx:ru k (fR k) x (fY k)<0:=h
 have a1:=pT hk h0 ox
 have a2:=nU hk h0 ox
 have a3:=pT hk h0 (nL hk h0)
 have b1:=de (a7 ox) (a7 (nO hk h0))
 have b2:=de (a7 ox) (a7 (nL hk h0))
 rw[gM,fv,fv,fv,sO h0,sE h0,a3,sE h0,show cx x (fY k)= -(cx (fY k) x) from by omega,show cx x (fR k)= -(cx (fR k) x) from by omega,a1,a2] at hx
 rw[fv]
 revert hx
 generalize kd k x=j
 revert j
 decide
end
theorem uy {α:Type}{d:α}{A B:List α}(h:i<A.length):(A++B).getD i d=A.getD i d:=by simp[List.getD,List.getElem?_append_left h]
theorem Pg {α:Type}{d:α}{A B:List α}:(A++B).getD (A.length+i) d=B.getD i d:=by simp[List.getD,List.getElem?_append_right]
theorem GY {c:Cv}(vc:CvV c) (hL: ∀y∈L,GP y∧c.on y=true) {d:Cv}(hd:d∈mN c L) {x:Pt}(gx:GP x) (hx:cP c.p x=0∨cP c.q x=0):d.inner x=false:=by
 cases h:d.inner x with
 |false=>rfl
 |true=>
  obtain⟨h1,_⟩:=QL vc hL hd gx h
  obtain⟨_,h2,h3⟩:=oW.1 h1
  omega
structure Hlf (k:Ci) (f t:Pt) (P R:List Cv) (T T':List Pt):Prop where
 p:P=jX (.arc k false f t) T
 r:R=jX (.arc k false f t) T'
 len:T.length=T'.length
 two:2≤T.length
 eq: ∀i,i<T.length→cP (T.getD i dPt) (T'.getD i dPt)=0
 o: ∀x∈T,OnK k x
 o': ∀x∈T',OnK k x
 s:T.Pairwise fun p q=>(Cv.arc k false f t).ord p q<0
 fst:T.getD 0 dPt=f
 lst:T.getD (T.length-1) dPt=t
 v:CvV (.arc k false f t)
 inn: ∀d,d∈P∨d∈R→ ∀x,x=fY k∨x=fR k→d.inner x=false
section
variable {k:Ci}{f t:Pt}{P R:List Cv}{T T':List Pt}
theorem Hlf.lenP (h:Hlf k f t P R T T'):P.length+1=T.length:=by rw[h.p,sb];have:=h.two;omega
theorem Hlf.lenR (h:Hlf k f t P R T T'):R.length+1=T.length:=by rw[h.r,sb];have:=h.two;have:=h.len;omega
theorem Hlf.P_at (h:Hlf k f t P R T T') (hi:i<P.length):P.getD i bL=.arc k false (T.getD i dPt) (T.getD (i+1) dPt):=by
 have:=h.lenP
 have e:=Jh (.arc k false f t) (T:=T) (i:=i) (by omega)
 rw[←h.p] at e;exact e
theorem Hlf.R_at (h:Hlf k f t P R T T') (hi:i<P.length):R.getD i bL=.arc k false (T'.getD i dPt) (T'.getD (i+1) dPt):=by
 have:=h.lenP
 have e:=Jh (.arc k false f t) (T:=T') (i:=i) (by have:=h.len;omega)
 rw[←h.r] at e;exact e
theorem Hlf.lt (h:Hlf k f t P R T T') (hij:i<j) (hj:j<T.length):(Cv.arc k false f t).ord (T.getD i dPt) (T.getD j dPt)<0:=by
 have:=(List.pairwise_iff_getElem.1 h.s) i j (by omega) hj hij
 rw[List.getD,ip (by omega),List.getD,ip hj];exact this
theorem Hlf.ne (h:Hlf k f t P R T T') (hij:i<j) (hj:j<T.length):cP (T.getD i dPt) (T.getD j dPt)≠0:=
 rd h.v.g (h.o _ (bJ (by omega))).1 (h.o _ (bJ hj)).1 (h.lt hij hj)
theorem Hlf.at_ (h:Hlf k f t P R T T') (hi:i<P.length): ∃a b a' b':Pt,P.getD i bL=.arc k false a b∧R.getD i bL=.arc k false a' b'∧(OnK k a∧OnK k b)∧(OnK k a'∧OnK k b')∧cP a a'=0∧cP b b'=0∧cP a b≠0∧
 (∀x,x=fY k∨x=fR k→(Cv.arc k false a b).inner x=false∧(Cv.arc k false a' b').inner x=false):=by
 have l1:=h.lenP
 have l2:=h.lenR
 have l3:=h.len
 refine⟨_,_,_,_,h.P_at hi,h.R_at hi,⟨h.o _ (bJ (by omega)),h.o _ (bJ (by omega))⟩,⟨h.o' _ (bJ (by omega)),h.o' _ (bJ (by omega))⟩,h.eq i (by omega),h.eq (i+1) (by omega),h.ne (by omega) (by omega),fun x hx=>⟨?_,?_⟩⟩
 ·rw[←h.P_at hi];exact h.inn _ (.inl (bJ hi)) x hx
 ·rw[←h.R_at hi];exact h.inn _ (.inr (bJ (by omega))) x hx
end
theorem QA (hk:GK k) (h0:0<k.q) (v:CvV (.arc k false f t)) (hx: ∀x,x=fY k∨x=fR k→cP f x=0∨cP t x=0) (hL: ∀p∈L,GP p∧(Cv.arc k false f t).on p=true) (hL': ∀p∈L',GP p∧(Cv.arc k false f t).on p=true) (h12: ∀x∈L,∃y∈L',cP x y=0) (h21: ∀y∈L',∃x∈L,cP y x=0):
 ∃T T':List Pt,Hlf k f t (q8 (.arc k false f t) (jS (.arc k false f t) L)) (mN (.arc k false f t) L') T T'∧T.length≤L.length+2:=by
 obtain⟨T,T',e1,e2,e3,e4,e5,e6,e7,e8,e9,_,e10,e11⟩:=Rg v hL hL' h12 h21
 refine⟨T,T',⟨e1,e2,e3,e4,e6,e7,e8,e9,e10,e11,v,fun d hd x hx2=>?_⟩,e5⟩
 have gx:GP x:=by rcases hx2 with rfl|rfl;exact qZ hk h0;exact q5 hk h0
 rcases hd with hd|hd
 ·rw[BQ v hL] at hd
  exact GY v (fun y hy=>hL y ((Ez v hL).2.1 y hy).2) hd gx (hx x hx2)
 ·exact GY v hL' hd gx (hx x hx2)
theorem XP (hk:GK k) (h0:0<k.q) {P R P2 R2:List Cv}{T T' T2 T2':List Pt}(h:Hlf k (fY k) (fR k) P R T T') (g:Hlf k (fR k) (fY k) P2 R2 T2 T2'):Sim k (P++P2) (R++R2):=by
 have l1:=h.lenP
 have l2:=g.lenP
 have m1:=h.lenR
 have m2:=g.lenR
 have n1:=h.two
 have n2:=g.two
 have lR:P.length=R.length:=by omega
 have at2: ∀i,¬i<P.length→(P++P2).getD i bL=P2.getD (i-P.length) bL:=fun i hi=>by rw[show i=P.length+(i-P.length) from by omega,Pg,Nat.add_sub_cancel_left]
 have at3: ∀i,¬i<P.length→(R++R2).getD i bL=R2.getD (i-P.length) bL:=fun i hi=>by rw[show i=R.length+(i-R.length) from by omega,Pg,←lR];congr 1;omega
 have kA: ∀ {i:Nat},i<P.length→j6 k (T.getD i dPt)=false:=fun{i} hi=>XH hk h0 (h.o _ (bJ (by omega))) (by have:=h.lt (i:=i) (j:=T.length-1) (by omega) (by omega);rw[h.lst] at this;exact this)
 have kB: ∀ {i:Nat},i<P2.length→j6 k (T2.getD i dPt)=true:=fun{i} hi=>WJ hk h0 (g.o _ (bJ (by omega))) (by have:=g.lt (i:=i) (j:=T2.length-1) (by omega) (by omega);rw[g.lst] at this;exact this)
 refine⟨by rw[dj,dj];omega,by rw[dj];omega,fun i hi=>?_,fun i hi=>?_,fun i j hij hj=>?_⟩
 ·rw[dj] at hi
  by_cases q:i<P.length
  ·rw[uy q,uy (by omega)];exact h.at_ q
  ·rw[at2 i q,at3 i q];exact g.at_ (by omega)
 ·rw[dj] at hi⊢
  by_cases q:i<P.length
  ·rw[uy q,h.P_at q]
   show T.getD (i+1) dPt=_
   rw[rZ (by omega)]
   by_cases q2:i+1<P.length
   ·rw[uy q2,h.P_at q2];rfl
   ·rw[at2 _ q2,g.P_at (by omega)]
    show _=T2.getD (i+1-P.length) dPt
    rw[show i+1-P.length=0 from by omega,g.fst,←h.lst];congr 1;omega
  ·rw[at2 i q,g.P_at (by omega)]
   show T2.getD (i-P.length+1) dPt=_
   by_cases q2:i+1<P.length+P2.length
   ·rw[rZ q2,at2 _ (by omega),g.P_at (by omega)]
    show _=T2.getD (i+1-P.length) dPt
    congr 1;omega
   ·rw[show i+1=P.length+P2.length from by omega,Nat.mod_self,uy (by omega),h.P_at (by omega)]
    show _=T.getD 0 dPt
    rw[h.fst,←g.lst];congr 1;omega
 ·rw[dj] at hj
  by_cases q:j<P.length
  ·rw[uy q,uy (by omega),h.P_at q,h.P_at (by omega)]
   exact h.ne hij (by omega)
  ·rw[at2 j q,g.P_at (by omega)]
   by_cases q2:i<P.length
   ·rw[uy q2,h.P_at q2]
    intro e
    have u1:=kA q2
    have u2:=kB (i:=j-P.length) (by omega)
    have:=Bm (b9 (h.o _ (bJ (by omega))).1) (b9 (g.o _ (bJ (by omega))).1) (show cP (T.getD i dPt) (T2.getD (j-P.length) dPt)=0 from e) k
    rw[u1,u2] at this;cases this
   ·rw[at2 i q2,g.P_at (by omega)]
    exact g.ne (by omega) (by omega)
end Go.Proofs.YtegpmhlfjkhjmaaGreat
