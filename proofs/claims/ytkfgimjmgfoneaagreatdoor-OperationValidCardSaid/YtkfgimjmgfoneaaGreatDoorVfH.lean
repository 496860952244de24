/-Square roots of integers,program and reference. -/
import Derived.Test.YtkfgimjmgfoneaaGreatDoorVfG
namespace Go.Proofs.YtkfgimjmgfoneaaGreatDoor
open Go Go.RowKit
variable {n s t y:Int}{k:Nat}{A B C D M N a a1 a2 b b1 b2 c c1 c2 d e f m p1 p2 q1 q2 x:Rat}
theorem bj:type_of% @Rz.mul:=@Rz.mul
theorem dX:type_of% @Rz.mono:=@Rz.mono
theorem ji:type_of% @Rz.int:=@Rz.int
theorem jv:type_of% @Sz.mul:=@Sz.mul
theorem jA:type_of% @Rz.sub:=@Rz.sub
theorem kA:type_of% @Rat.mul_nonneg:=@Rat.mul_nonneg
theorem Ip {x:Int}(hx:Sz 19999999 x):Ok Tryz.prog 181 [dI x] [dI (cn x),.c (.i .i64 (if x<0 then 7 else 0))]:=by
 have h20:(2:Int)≠0:=by decide
 have hl:=fA hx
 have hs2:Sz 20000000 (2:Int):=mA (by omega) (by omega) (by omega)
 refine eG Tryz.func181 52 [.cell 2 68,.tmp 3] rfl<|ab<|ah<|ab<|ab<|ah ?_
 refine aB rfl (fun hc1=>?_) (fun hc1=>?_)
 ·have hn:x<0:=by simpa using hc1
  refine ab<|ah<|ar (aG (us:=([.b false]++[.s 0 []])) Ig CK rfl rfl rfl) ?_
  refine bh ?_
  rw[re hn,if_pos hn,zi]
  exact ag (bb d6 rfl (am aa))
 ·have hn:0≤x:=by have:=hc1;simp at this;omega
  refine az<|ab<|ab<|ah ?_
  refine aB rfl (fun hc2=>?_) (fun hc2=>?_)
  ·have hz:x=0:=by have:=hc2;simp[df] at this;omega
   refine ab<|ah<|ar (aG (us:=([.b false]++[.s 0 []])) Ig CK rfl rfl rfl) ?_
   refine bh ?_
   rw[hz,FY,zi,if_neg (by omega)]
   exact ag (bb d6 rfl (am aa))
  ·have hx0:0<x:=by have:=hc2;simp[df] at this;omega
   obtain⟨k,hk⟩: ∃k:Nat,((ce x.natAbs).length+1)/2=k:=⟨_,rfl⟩
   have hpk:=cW k
   have hpc:cL (pw k)=cL (pw k):=rfl
   refine az<|ab<|bR<|fK 3<|b9 (bQ ((((ce x.natAbs).length:Int))+1) (aP (by omega) (by omega)) rfl)<|b9 (gz (r:=(k:Int)) rfl rfl (by omega) (by rw[nv (by omega),show(((ce x.natAbs).length:Int)+1)/2=(k:Int) from by omega];exact oC (by omega) (by omega)) rfl) ?_
   refine tJ (lB (n:=k) ua rfl rfl (by omega) (by omega) rfl) rfl ?_
   refine b9 (ws ua rfl rfl) ?_
   refine L6 (wY ua rfl rfl rfl (by omega) rfl) ?_
   refine b9 (aG (us:=([.b false]++[cL (pw k)])) Ig CK rfl rfl rfl) ?_
   refine sX (pP CK rfl) rfl<|jq<|ab<|ah<|ac rfl (ng (by omega) (by omega))<|aA<|aY (ι:={r:Int // NInv 19999999 x r}) (fun i=>⟨52,[(1,.p 1 0),(2,.p 2 0),(3,.v (.c (.i .i64 0))),(4,.p 4 0),(5,.p 5 0)],[(1,68,cI x),(2,68,([.b false]++[.s 0 []])),(4,68,cI i.1),(5,68,cI 2)]⟩) (fun i=>i.1.toNat) ⟨pw k,NInv.start hx0 hx hk (by omega)⟩ (ak ⟨rfl,rfl,rfl,rfl,rfl,trivial⟩ ⟨rfl,rfl,by rw[R6 (by have:=cW k;omega)];rfl,rfl,trivial⟩ rfl) ?_
   rintro⟨r,hg⟩
   replace hg:NInv 19999999 x r:=hg
   have hsr:=hg.sz
   have hr0:=hg.r0
   have hrn:r≠0:=by omega
   obtain⟨hsq,hsum,hsn⟩:=hg.sum hx hx0
   have a1:Sz 20000000 r:=hsr.m_
   have a2:Sz 90000000 (x.fdiv r):=hsq.m_
   have a3:Sz 20000000 x:=hx.m_
   have a4:Sz 90000000 r:=hsr.m_
   have a5:Sz 100000000 r:=hsr.m_
   have a6:Sz 100000000 ((r+x.fdiv r).fdiv 2):=hsn.m_
   dsimp only
   refine aA<|ab<|ah ?_
   refine ac rfl (jJ (by assumption) (by assumption) (by assumption))<|ab<|dx 14 [9,10,999999] ?_
   refine aO rfl (uw (by assumption) (by assumption)) ?_
   refine aO rfl (jJ (by assumption) (by assumption) (by assumption)) ?_
   refine DQ.mk<|kq (fI d6 rfl) rfl rfl rfl rfl<|ez ?_
   refine DQ.mk<|kq (fI d6 rfl) rfl rfl rfl rfl<|ez ?_
   refine ab<|ab<|ah ?_
   refine ac rfl (D9 (by assumption) (by assumption)) ?_
   refine aB rfl (fun hc3=>?_) (fun hc3=>?_)
   ·have hst:=El hc3
    refine ab<|ah ?_
    refine bh ?_
    rw[hg.done hx0 hst,if_neg (by omega)]
    exact ag (bb d6 rfl (am aa))
   ·have hlt:=Er hc3
    refine az<|ah ?_
    exact⟨⟨(r+x.fdiv r).fdiv 2,hg.next hx0 hlt⟩,ak ⟨rfl,rfl,rfl,rfl,rfl,trivial⟩ ⟨rfl,rfl,rfl,rfl,trivial⟩ rfl,by show((r+x.fdiv r).fdiv 2).toNat<r.toNat;omega⟩
theorem y9:Ok Tryz.prog 107 [] [dI 1]:=by
 refine bS Tryz.func107 rfl<|ac rfl (wL (by omega) (by omega)) ?_
 exact ag (bb d6 rfl aa)
theorem AR {m:Int}:Ok Tryz.prog 115 [.c (.i .i64 m)] [.c (.b false)]:=by
 refine bS Tryz.func115 rfl ?_
 exact⟨.inr rfl,by simpa using(am aa)⟩
theorem Gq {m:Int}:Ok Tryz.prog 75 [.c (.i .i64 m),.c (.i .i64 n)] [.c (.i .i64 (cO m n))]:=by
 refine bS Tryz.func75 rfl<|ac rfl (AR)<|ac rfl (AR)<|nE rfl<|nE rfl ?_
 refine cd rfl (fun hc1=>?_) (fun hc1=>?_)
 ·refine ag ?_
  rw[dd (by simpa using hc1)]
  exact am aa
 ·refine cd rfl (fun hc2=>?_) (fun hc2=>?_)
  ·refine ag ?_
   rw[dk (by simpa using hc2)]
   exact am aa
  ·refine ag ?_
   rw[ie (by have:=hc1;have h2:=hc2;simp at this h2;omega)]
   exact am aa
theorem HU:Ok Tryz.prog 76 [dR x] [.c (.i .i64 (aM x 0))]:=by
 refine bS Tryz.func76 rfl ?_
 refine ac rfl (AL)<|ag ?_
 rw[←rr]
 exact am aa
theorem xy:Ok Tryz.prog 76 [dR x] [.c (.i .i64 (aM x 0))]:=HU
theorem Fh:Ok Tryz.prog 71 [dI n] [dR (n:Rat)]:=by
 refine bS Tryz.func71 rfl<|cS 3 [] ?_
 refine aO rfl (y9) ?_
 refine aq (aG (us:=cQ n 1) t7 sD rfl rfl rfl) ?_
 refine ag ?_
 rw[IJ]
 exact bb bZ rfl aa
theorem Jr (h0: -9223372036854775808≤n) (h1:n≤9223372036854775807):Ok Tryz.prog 45 [.c (.i .i64 n)] [dR (n:Rat)]:=by
 refine bS Tryz.func45 rfl<|ac rfl (wL (by omega) (by omega))<|ac rfl (Fh) ?_
 exact ag (bb bZ rfl aa)
theorem xw (h0: -9223372036854775808≤n) (h1:n≤9223372036854775807):Ok Tryz.prog 45 [.c (.i .i64 n)] [dR (n:Rat)]:=Jr h0 h1
theorem nJ {x:Int}(hx:Sz 100000000 x) (hy:Sz 100000000 y) (h0:y≠0):Ok Tryz.prog 113 [dI x,dI y] [dI (x.fdiv y)]:=by
 refine bS Tryz.func113 rfl<|ac rfl (CQ (gK hx) (gK hy) (by assumption)) ?_
 exact ag (bb d6 rfl aa)
theorem Bp {x:Int}(hx:Sz 19980000 x) (hy:Sz 19980000 y) (h0:y≠0):Ok Tryz.prog 73 [dI x,dI y] [dR (Rat.divInt x y)]:=by
 have hg:=yp (n:=x) h0
 have hg2:=yp (n:= -x) (d:= -y) (by omega)
 have hgs:=Sz.gcd (x:=x) hy h0
 have hgs2:=Sz.gcd (x:= -x) hy.neg (by omega)
 refine bS Tryz.func73 rfl<|ac rfl (AL) ?_
 refine cd rfl (fun hc1=>?_) (fun hc1=>?_)
 ·have hn:=Se hc1
  refine cS 4 [] ?_
  refine aO rfl (ET (gK hx)) ?_
  refine aO rfl (ET (gK hy)) ?_
  refine ac rfl (DE (gK (Sz.neg hx)) (gK (Sz.neg hy)))<|cS 4 [] ?_
  refine aO rfl (y9) ?_
  refine aO rfl (yg) ?_
  refine cd rfl (fun hc2=>?_) (fun hc2=>?_)
  ·refine cS 6 [] ?_
   refine aO rfl (nJ (gK (Sz.neg hx)) (Jb) (by first|assumption|exact neg_ne (by assumption)|exact jk (by assumption) (by assumption))) ?_
   refine aO rfl (nJ (gK (Sz.neg hy)) (Jb) (by first|assumption|exact neg_ne (by assumption)|exact jk (by assumption) (by assumption))) ?_
   refine ar (aG (us:=cQ ((-x).fdiv ((Int.gcd (-x) (-y):Int))) ((-y).fdiv ((Int.gcd (-x) (-y):Int)))) t7 sD rfl rfl rfl) ?_
   refine ag ?_
   rw[CM,u5 (by omega)]
   exact bb bZ rfl aa
  ·refine ar (aG (us:=cQ (-x) (-y)) t7 sD rfl rfl rfl) ?_
   refine ag ?_
   rw[CM,uG (by omega) (Rs hc2)]
   exact bb bZ rfl aa
 ·have hn:=P9 hc1
  refine ac rfl (DE (gK hx) (gK hy))<|cS 4 [] ?_
  refine aO rfl (y9) ?_
  refine aO rfl (yg) ?_
  refine cd rfl (fun hc3=>?_) (fun hc3=>?_)
  ·refine cS 6 [] ?_
   refine aO rfl (nJ (gK hx) (Jb) (by first|assumption|exact neg_ne (by assumption)|exact jk (by assumption) (by assumption))) ?_
   refine aO rfl (nJ (gK hy) (Jb) (by first|assumption|exact neg_ne (by assumption)|exact jk (by assumption) (by assumption))) ?_
   refine ar (aG (us:=cQ (x.fdiv (Int.gcd x y:Int)) (y.fdiv (Int.gcd x y:Int))) t7 sD rfl rfl rfl) ?_
   refine ag ?_
   rw[u5 (by omega)]
   exact bb bZ rfl aa
  ·refine ar (aG (us:=cQ x y) t7 sD rfl rfl rfl) ?_
   refine ag ?_
   rw[uG (by omega) (Rs hc3)]
   exact bb bZ rfl aa
theorem AM {y:Rat}(hx:Rz 6000000 x) (hy:Rz 6000000 y):Ok Tryz.prog 46 [dR x,dR y] [dR (x*y)]:=by
 have hn:=jk (oS x) (oS y)
 refine bS Tryz.func46 rfl<|cS 11 [] ?_
 refine aO rfl (uQ (gK (Rz.n hx)) (gK (Rz.n hy))) ?_
 refine aO rfl (uQ (gK (Rz.d hx)) (gK (Rz.d hy))) ?_
 refine aO rfl (Bp (gK (jv (Rz.n hx) (Rz.n hy))) (gK (jv (Rz.d hx) (Rz.d hy))) (by first|assumption|exact neg_ne (by assumption)|exact jk (by assumption) (by assumption))) ?_
 refine ag ?_
 rw[←N6]
 exact bb bZ rfl aa
theorem B3 {y:Rat}(hx:Rz 6000000 x) (hy:Rz 6000000 y):Ok Tryz.prog 47 [dR x,dR y] [.c (.i .i64 (aM x y))]:=by
 refine bS Tryz.func47 rfl<|cS 6 [] ?_
 refine aO rfl (xy) ?_
 refine aO rfl (xy) ?_
 refine aO rfl (Gq) ?_
 refine cd rfl (fun hc1=>?_) (fun hc1=>?_)
 ·refine ag ?_
  rw[←Dt hc1]
  exact am aa
 ·refine cS 12 [] ?_
  refine aO rfl (uQ (gK (Rz.n hx)) (gK (Rz.d hy))) ?_
  refine aO rfl (uQ (gK (Rz.n hy)) (gK (Rz.d hx))) ?_
  refine aO rfl (yg)<|ag ?_
  rw[At (x:=x) (y:=y)]
  exact am aa
theorem Bf:Ok Tryz.prog 38 [] [dI 1]:=by
 refine bS Tryz.func38 rfl<|ac rfl (ng (by omega) (by omega)) ?_
 exact ag (bb d6 rfl aa)
theorem jd:Ok Tryz.prog 55 [dR x] [.c (.i .i64 (aM x 0))]:=by
 refine bS Tryz.func55 rfl ?_
 refine ac rfl (rH)<|ag ?_
 rw[←rr]
 exact am aa
theorem bF:Ok Tryz.prog 55 [dR x] [.c (.i .i64 (aM x 0))]:=jd
theorem vu (h0: -9223372036854775808≤n) (h1:n≤9223372036854775807):Ok Tryz.prog 18 [.c (.i .i64 n)] [dR (n:Rat)]:=by
 refine bS Tryz.func18 rfl<|ac rfl (ng (by omega) (by omega))<|ac rfl (Bf)<|ar (aG (us:=cQ n 1) t7 sD rfl rfl rfl) ?_
 refine ag ?_
 rw[IJ]
 exact bb bZ rfl aa
theorem eu (h0: -9223372036854775808≤n) (h1:n≤9223372036854775807):Ok Tryz.prog 18 [.c (.i .i64 n)] [dR (n:Rat)]:=vu h0 h1
theorem mi {x:Int}(hx:Sz 19980000 x) (hy:Sz 19980000 y) (h0:y≠0):Ok Tryz.prog 80 [dI x,dI y] [dR (Rat.divInt x y)]:=by
 have hg:=yp (n:=x) h0
 have hg2:=yp (n:= -x) (d:= -y) (by omega)
 have hgs:=(Sz.gcd (x:=x) hy h0).mono (l:=20000000) (by decide)
 have hgs2:=(Sz.gcd (x:= -x) hy.neg (by omega)).mono (l:=20000000) (by decide)
 refine bS Tryz.func80 rfl<|ac rfl (rH) ?_
 refine cd rfl (fun hc1=>?_) (fun hc1=>?_)
 ·have hn:=Se hc1
  refine cS 4 [] ?_
  refine aO rfl (uE (gK hx)) ?_
  refine aO rfl (uE (gK hy)) ?_
  refine ac rfl (yy (gK (Sz.neg hx)) (gK (Sz.neg hy))) ?_
  refine ac rfl (jJ (gK (Sz.neg hx)) (Jb) (by assumption)) ?_
  refine ac rfl (jJ (gK (Sz.neg hy)) (Jb) (by assumption)) ?_
  refine ar (aG (us:=cQ ((-x).fdiv ((Int.gcd (-x) (-y):Int))) ((-y).fdiv ((Int.gcd (-x) (-y):Int)))) t7 sD rfl rfl rfl) ?_
  refine ag ?_
  rw[CM,u5 (by omega)]
  exact bb bZ rfl aa
 ·have hn:=P9 hc1
  refine ac rfl (yy (gK hx) (gK hy))<|ac rfl (jJ (gK hx) (Jb) (by assumption))<|ac rfl (jJ (gK hy) (Jb) (by assumption))<|ar (aG (us:=cQ (x.fdiv (Int.gcd x y:Int)) (y.fdiv (Int.gcd x y:Int))) t7 sD rfl rfl rfl) ?_
  refine ag ?_
  rw[u5 (by omega)]
  exact bb bZ rfl aa
theorem E1 {x:Int}(hx:Sz 19980000 x) (hy:Sz 19980000 y) (h0:y≠0):Ok Tryz.prog 218 [dI x,dI y] [dR (Rat.divInt x y),.c (.i .i64 0)]:=by
 refine bS Tryz.func218 rfl<|ac rfl (rH) ?_
 refine cd rfl (fun hc1=>?_) (fun hc1=>?_)
 ·exact absurd (RB hc1) h0
 ·refine ac rfl (mi (gK hx) (gK hy) (by first|assumption|exact neg_ne (by assumption)|exact jk (by assumption) (by assumption))) ?_
  exact ag (bb bZ rfl (am aa))
theorem xL {d:Int}(h0: -9223372036854775808≤n) (h1:n≤9223372036854775807) (h2: -9223372036854775808≤d) (h3:d≤9223372036854775807) (hd:d≠0):Ok Tryz.prog 144 [.c (.i .i64 n),.c (.i .i64 d)] [dR (Rat.divInt n d)]:=by
 have z1:Sz 19980000 n:=mA (by decide) h0 h1
 have z2:Sz 19980000 d:=mA (by decide) h2 h3
 refine bS Tryz.func144 rfl ?_
 refine cd rfl (fun hc1=>?_) (fun hc1=>?_)
 ·exact absurd (by simpa using hc1) hd
 ·refine ac rfl (ng (by omega) (by omega))<|ac rfl (ng (by omega) (by omega)) ?_
  refine ac rfl (mi (Jb) (Jb) (by first|assumption|exact neg_ne (by assumption)|exact jk (by assumption) (by assumption))) ?_
  exact ag (bb bZ rfl aa)
theorem dP (hx:Rz 6000000 x):Ok Tryz.prog 143 [dR x] [dR (-x)]:=by
 refine bS Tryz.func143 rfl<|cS 6 [] ?_
 refine aO rfl (uE (gK (Rz.n hx))) ?_
 refine aq (aG (us:=cQ (-x.num) (x.den:Int)) t7 sD rfl rfl rfl) ?_
 refine ag ?_
 rw[MG (Rat.neg_num x) (congrArg Int.ofNat (Rat.neg_den x))]
 exact bb bZ rfl aa
theorem fa {y:Rat}(hx:Rz 6000000 x) (hy:Rz 6000000 y):Ok Tryz.prog 173 [dR x,dR y] [dR (x+y)]:=by
 have hn:=jk (oS x) (oS y)
 refine bS Tryz.func173 rfl<|ac rfl (jQ (gK (Rz.n hx)) (gK (Rz.d hy)))<|ac rfl (jQ (gK (Rz.n hy)) (gK (Rz.d hx)))<|cS 9 [] ?_
 refine aO rfl (uw (gK (jv (Rz.n hx) (Rz.d hy))) (gK (jv (Rz.n hy) (Rz.d hx)))) ?_
 refine aO rfl (jQ (gK (Rz.d hx)) (gK (Rz.d hy))) ?_
 refine aO rfl (mi (gK (Sz.addm (jv (Rz.n hx) (Rz.d hy)) (jv (Rz.n hy) (Rz.d hx)))) (gK (jv (Rz.d hx) (Rz.d hy))) (by first|assumption|exact neg_ne (by assumption)|exact jk (by assumption) (by assumption))) ?_
 refine ag ?_
 rw[←Qs]
 exact bb bZ rfl aa
theorem lq {y:Rat}(hx:Rz 6000000 x) (hy:Rz 6000000 y):Ok Tryz.prog 209 [dR x,dR y] [dR (x-y)]:=by
 refine bS Tryz.func209 rfl<|cS 4 [] ?_
 refine aO rfl (dP (bd hy)) ?_
 refine aO rfl (fa (bd hx) (bd (Rz.neg hy)))<|ag ?_
 rw[Rat.sub_eq_add_neg]
 exact bb bZ rfl aa
theorem bV {y:Rat}(hx:Rz 6000000 x) (hy:Rz 6000000 y):Ok Tryz.prog 49 [dR x,dR y] [dR (x*y)]:=by
 have hn:=jk (oS x) (oS y)
 refine bS Tryz.func49 rfl<|cS 11 [] ?_
 refine aO rfl (jQ (gK (Rz.n hx)) (gK (Rz.n hy))) ?_
 refine aO rfl (jQ (gK (Rz.d hx)) (gK (Rz.d hy))) ?_
 refine aO rfl (mi (gK (jv (Rz.n hx) (Rz.n hy))) (gK (jv (Rz.d hx) (Rz.d hy))) (by first|assumption|exact neg_ne (by assumption)|exact jk (by assumption) (by assumption))) ?_
 refine ag ?_
 rw[←N6]
 exact bb bZ rfl aa
theorem we {y:Rat}(hx:Rz 6000000 x) (hy:Rz 6000000 y) (h0:y≠0):Ok Tryz.prog 192 [dR x,dR y] [dR (x/y),.c (.i .i64 0)]:=by
 have hn:=jk (oS x) (OL h0)
 refine bS Tryz.func192 rfl<|cS 13 [] ?_
 refine aO rfl (jQ (gK (Rz.n hx)) (gK (Rz.d hy))) ?_
 refine aO rfl (jQ (gK (Rz.d hx)) (gK (Rz.n hy))) ?_
 refine aO rfl (E1 (gK (jv (Rz.n hx) (Rz.d hy))) (gK (jv (Rz.d hx) (Rz.n hy))) (by first|assumption|exact neg_ne (by assumption)|exact jk (by assumption) (by assumption))) ?_
 refine ag ?_
 rw[←QK]
 exact bb bZ rfl (am aa)
theorem eF {y:Rat}(hx:Rz 6000000 x) (hy:Rz 6000000 y):Ok Tryz.prog 48 [dR x,dR y] [.c (.i .i64 (aM x y))]:=by
 refine bS Tryz.func48 rfl<|cS 12 [] ?_
 refine aO rfl (jQ (gK (Rz.n hx)) (gK (Rz.d hy))) ?_
 refine aO rfl (jQ (gK (Rz.n hy)) (gK (Rz.d hx))) ?_
 refine aO rfl (D9 (gK (jv (Rz.n hx) (Rz.d hy))) (gK (jv (Rz.n hy) (Rz.d hx))))<|ag ?_
 rw[At (x:=x) (y:=y)]
 exact am aa
theorem xH {x:Int}(hx:Sz 6000000 x):Ok Tryz.prog 156 [dI x] [dI (cn x),.c (.b (Ca x))]:=by
 have hs:=Sz.isq hx
 refine bS Tryz.func156 rfl<|ac rfl (Ip (gK hx))<|cS 12 [2,999999] ?_
 refine pr (au rfl) (fun c1 hb1=>?_)
 cases c1
 ·refine DQ.mk<|il (fI d6 rfl) rfl rfl rfl rfl<|ez ?_
  refine ag ?_
  rw[Kx (e7 hb1)]
  exact bb d6 rfl (am aa)
 ·refine aO rfl (jQ (gK (Sz.isq hx)) (gK (Sz.isq hx))) ?_
  refine aO rfl (AN (gK (jv (Sz.isq hx) (Sz.isq hx))) (gK hx)) ?_
  refine DQ.mk<|DC (fI d6 rfl) rfl rfl (by kernel_rfl) rfl<|ez ?_
  refine ag ?_
  rw[show Ca x=(cn x*cn x==x) from rfl]
  exact bb d6 rfl (am aa)
theorem ny (hx:Rz 6000000 x):Ok Tryz.prog 128 [dR x] [dQ (if j9 x then cn x.num else 0) (if j9 x then cn (x.den:Int) else 0),.c (.b (j9 x))]:=by
 refine bS Tryz.func128 rfl<|ac rfl (xH (gK (Rz.n hx)))<|ac rfl (xH (gK (Rz.d hx))) ?_
 refine dF (au rfl) (fun c1 hb1=>?_)
 cases c1
 ·refine cd rfl (fun hc2=>?_) (fun hc2=>?_)
  ·refine ar (aG (us:=(([.b false]++[.s 0 []])++([.b false]++[.s 0 []]))) t7 sD rfl rfl rfl) ?_
   refine ag ?_
   rw[OF (by simpa using hc2),if_neg (by decide),if_neg (by decide),DS]
   exact bb bZ rfl (am aa)
  ·refine ar (aG (us:=cQ (cn x.num) (cn (x.den:Int))) t7 sD rfl rfl rfl) ?_
   refine ag ?_
   rw[Qr (by simpa using hb1) (by simpa using hc2),if_pos rfl,if_pos rfl]
   exact bb bZ rfl (am aa)
 ·refine kG rfl<|ar (aG (us:=(([.b false]++[.s 0 []])++([.b false]++[.s 0 []]))) t7 sD rfl rfl rfl) ?_
  refine ag ?_
  rw[Pu (by simpa using hb1),if_neg (by decide),if_neg (by decide),DS]
  exact bb bZ rfl (am aa)
theorem AC (hx:Rz 300 x):Ok Tryz.prog 128 [dR x] [dQ (if j9 x then cn x.num else 0) (if j9 x then cn (x.den:Int) else 0),.c (.b (j9 x))]:=ny (hx.mono (by decide))
theorem FX {neg:Bool}{xs:List Int}(hb:Lo xs) (hn:xs.length≤10000000):Ok Tryz.prog 86 [.a (([.b neg]++[cM xs]))] [.c (.b (vI neg xs))]:=by
 refine bS Tryz.func86 rfl ?_
 refine DW.mk<|aY (ι:={k:Nat // k≤xs.length∧ ∀j,j<k→xs.getD j 0<1000000000}) (fun i=>⟨36,[(1,.p 1 0),(3,.v (.c (.i .i64 (i.1:Int))))],[(1,68,([.b neg]++[cM xs]))]⟩) (fun i=>xs.length-i.1) ⟨0,cY _,fun j hj=>by omega⟩ (ak ⟨rfl,rfl,trivial⟩ ⟨rfl,trivial⟩ rfl) ?_
 rintro⟨k,hk0,hall⟩
 replace hk0:k≤xs.length:=hk0
 replace hall: ∀j,j<k→xs.getD j 0<1000000000:=hall
 have hg:=Hq hb k
 dsimp only
 refine jt ?_
 refine cd rfl (fun hc1=>?_) (fun hc1=>?_)
 ·have hk:k<xs.length:=by simp only[decide_eq_true_eq] at hc1;omega
  refine ar (aC gw rfl rfl (by omega) (gG _) rfl rfl) ?_
  refine ar (aL dH rfl (im (i:=k) (by omega)) rfl) ?_
  refine cd rfl (fun hc2=>?_) (fun hc2=>?_)
  ·have hbad:xs.getD k 0≥1000000000:=by simpa using hc2
   refine ag ?_
   rw[Oy hk hbad]
   exact am aa
  ·have hok: ¬xs.getD k 0≥1000000000:=by simpa using hc2
   have hstep: ∀j,j<k+1→xs.getD j 0<1000000000:=fun j hj=>by
    rcases jb j k with h1|h1
    ·exact hall j h1
    ·rw[show j=k from by omega];omega
   refine ar (bQ ((k:Int)+1) (aP (by omega) (by omega)) rfl) ?_
   exact⟨⟨k+1,hk,hstep⟩,ak ⟨rfl,by rw[show((k+1:Nat):Int)=(k:Int)+1 from by omega];rfl,trivial⟩ ⟨rfl,trivial⟩ rfl,by show xs.length-(k+1)<xs.length-k;omega⟩
 ·have hk:k=xs.length:=by simp only[decide_eq_false_iff_not] at hc1;omega
  have hL:Lim xs:=Cz hb (by rw[←hk];exact hall)
  refine cS 20 [] ?_
  refine aO rfl (io hL (by omega)) ?_
  refine pr (au rfl) (fun c3 hb3=>?_)
  cases c3
  ·refine DQ.mk<|kN (eB rfl)<|ez ?_
   refine ag ?_
   rw[CG hL,hb3,ib]
   exact am aa
  ·refine pr (au rfl) (fun c4 hb4=>?_)
   cases c4
   ·refine ag ?_
    rw[CG hL,hb3,hb4,ku,du]
    exact am aa
   ·refine ag ?_
    rw[CG hL,hb3,hb4,Bool.true_or,du]
    exact am aa
def vQ (x y:Int):Bool:=decide (0<y)&&(((Int.gcd x y:Nat):Int)==1)
theorem Sw {x:Int}:vI (decide (x<0)) (ce x.natAbs)=true:=by
 unfold vI
 rw[wC (bk _),show trm (ce x.natAbs)=ce x.natAbs from fZ _]
 by_cases h:x<0
 ·have:ce x.natAbs≠ []:=fun e=>by have:=df.1 e;omega
  have:=List.length_pos_iff.2 this
  grind
 grind
theorem KA (v:Nat):Lo (ce v):=fun x hx=>by have:=bk v x hx;omega
theorem As {x:Int}(hx:Sz 10000000 x):Ok Tryz.prog 86 [dI x] [.c (.b true)]:=by
 have:=FX (neg:=decide (x<0)) (xs:=ce x.natAbs) (KA _) (fA hx)
 rw[Sw] at this;exact this
theorem Tm {x:Int}(h:vQ x y=true):cQ x y=cR (Rat.divInt x y):=by
 unfold vQ at h
 simp only[dU,decide_eq_true_eq,beq_iff_eq] at h
 have:=uG (n:=x) h.1 h.2
 unfold dR dQ at this
 injection this with this
 exact this.symm
theorem Qx (x:Rat):vQ x.num (x.den:Int)=true:=by
 unfold vQ
 simp only[dU,decide_eq_true_eq,beq_iff_eq]
 refine⟨den_pos x,?_⟩
 have:Int.gcd x.num (x.den:Int)=1:=x.reduced
 grind
theorem J3 {x:Int}(h:vQ x y=true):(Rat.divInt x y).num=x∧((Rat.divInt x y).den:Int)=y:=by
 unfold vQ at h
 simp only[dU,decide_eq_true_eq,beq_iff_eq] at h
 obtain⟨h1,h2⟩:=h
 have h3:Int.gcd x y=1:=by omega
 rw[Rat.num_divInt,Rat.den_divInt,if_neg (by omega),Int.sign_eq_one_of_pos h1,Int.one_mul,Int.gcd_comm y x,h3]
 grind
theorem P7 {x:Int}(h:(cO y 0 !=1)=true):vQ x y=false:=by
 unfold vQ
 have h1: ¬0<y:=fun e=>by rw[dk e] at h;cases h
 grind
theorem Qh (h:(cO y 0 !=1)=false):y≠0:=fun e=>by rw[ie e] at h;cases h
theorem Sa {x:Int}(h:(cO y 0 !=1)=false):vQ x y=(((Int.gcd x y:Nat):Int)==1):=by
 unfold vQ
 have h1:0<y:=by
  rcases pi y 0 with e|e|e
  ·rw[dd e] at h;cases h
  ·rw[ie e] at h;cases h
  grind
 grind
def zc (b c:Rat):Rat:=if b=0 then 0 else c
theorem zo (h:b=0):zc b c=0:=by unfold zc;rw[if_pos h]
theorem ij (h:b≠0):zc b c=c:=by unfold zc;rw[if_neg h]
theorem Ai (h:(aM x 0==0)=true):x=0:=LE h
theorem vT (h:(aM x 0==0)=false):x≠0:=fun e=>by rw[lf.2 e] at h;cases h
theorem Nb:(0:Rat)=((0:Int):Rat):=rfl
def OH (b1 c1 b2 c2:Rat):Prop:=b1≠0∧b2≠0∧c1≠c2
def cc (b1 c1 c2:Rat):Rat:=if b1=0 then c2 else c1
theorem KG (h:b1=0):cc b1 c1 c2=c2:=by unfold cc;rw[if_pos h]
theorem yA (h:b1≠0):cc b1 c1 c2=c1:=by unfold cc;rw[if_neg h]
def tq (b1 b2 c:Rat):Bool:=if b1=0∧b2=0 then decide (c=0) else decide (0<c)&& !j9 c
theorem Sc:(aM x 0==0)=decide (x=0):=by rw[Bool.eq_iff_iff,beq_iff_eq,decide_eq_true_eq,lf]
theorem MZ:decide (aM x 0>0)=decide (0<x):=by rw[Bool.eq_iff_iff,decide_eq_true_eq,decide_eq_true_eq];exact mZ
theorem QI (h:(aM b1 0==0)=true) (h2:(aM b2 0==0)=true):tq b1 b2 c=(aM c 0==0):=by
 unfold tq;rw[if_pos ⟨Ai h,Ai h2⟩,Sc]
theorem Nd (h:(aM b1 0==0)=false):tq b1 b2 c=(decide (aM c 0>0)&& !j9 c):=by
 unfold tq;rw[if_neg (fun e=>vT h e.1),MZ]
theorem Na (h:(aM b2 0==0)=false):tq b1 b2 c=(decide (aM c 0>0)&& !j9 c):=by
 unfold tq;rw[if_neg (fun e=>vT h e.2),MZ]
def zP:List CellD:=[.b false,.s 0 [],.b false,.s 0 [],.b false,.s 0 [],.b false,.s 0 [],.b false,.s 0 [],.b false,.s 0 [],.b false,.s 0 [],.b false,.s 0 [],.b false,.s 0 [],.b false,.s 0 []]
theorem Mg {x:Int}(hx:Sz 5000000 x) (hy:Sz 5000000 y):Ok Tryz.prog 54 [dQ x y] [.c (.b (vQ x y))]:=by
 have hx1:Sz 10000000 x:=hx.m_
 have hy1:Sz 10000000 y:=hy.m_
 refine bS Tryz.func54 rfl ?_
 refine ac rfl (As (by assumption)) ?_
 refine ar (au rfl) ?_
 refine ac rfl (As (by assumption)) ?_
 refine ar (au rfl) ?_
 refine ac rfl (rH) ?_
 refine cd rfl (fun hc1=>?_) (fun hc1=>?_)
 ·refine ag ?_
  rw[P7 hc1]
  exact am aa
 ·have hgc:Sz 100000000 ((Int.gcd x y:Nat):Int):=(Sz.gcd (x:=x) hy (Qh hc1)).m_
  refine ac rfl (yy (gK hx) (gK hy))<|ac rfl (Bf)<|ac rfl (AN (Jb) (gK (mA (k:=3) (by decide) (by decide) (by decide))))<|ag ?_
  rw[Sa hc1]
  exact am aa
theorem gW (hx:Rz 5000000 x):Ok Tryz.prog 54 [dR x] [.c (.b true)]:=by
 have:=Mg hx.n hx.d
 rw[Qx] at this;exact this
theorem s9:Ok Tryz.prog 172 [] [dR 0]:=by
 refine bS Tryz.func172 rfl<|ac rfl (vu (by omega) (by omega)) ?_
 refine ag ?_
 rw[Nb]
 exact bb bZ rfl aa
theorem xU:Ok Tryz.prog 219 [] [dR 0]:=by
 refine bS Tryz.func219 rfl<|ac rfl (vu (by omega) (by omega)) ?_
 refine ag ?_
 rw[Nb]
 exact bb bZ rfl aa
theorem je:Ok Tryz.prog 193 [dR a] [.a ((cR a++cR 0++cR 0))]:=by
 refine bS Tryz.func193 rfl<|cS 4 [] ?_
 refine aO rfl (xU) ?_
 refine aO rfl (xU) ?_
 refine aq (aG (us:=(cR a++cR 0++cR 0)) BO xr rfl rfl rfl) ?_
 exact ag (bb fR rfl aa)
theorem uS:Ok Tryz.prog 190 [dR a,dR b,dR c] [.a ((cR a++cR b++cR (zc b c)))]:=by
 refine bS Tryz.func190 rfl<|ac rfl (jd) ?_
 refine cd rfl (fun hc1=>?_) (fun hc1=>?_)
 ·refine ac rfl (je) ?_
  have e:=Ai hc1
  subst e
  refine ag ?_
  rw[zo rfl]
  exact bb fR rfl aa
 ·refine ar (aG (us:=(cR a++cR b++cR c)) BO xr rfl rfl rfl) ?_
  refine ag ?_
  rw[ij (vT hc1)]
  exact bb fR rfl aa
theorem mK:Ok Tryz.prog 161 [.a ((cR a1++cR b1++cR a2++cR b2++cR c))] [.a ((cR a1++cR b1++cR (zc b1 c)))]:=by
 refine bS Tryz.func161 rfl<|ac rfl (uS) ?_
 exact ag (bb fR rfl aa)
theorem sJ:Ok Tryz.prog 162 [.a ((cR a1++cR b1++cR a2++cR b2++cR c))] [.a ((cR a2++cR b2++cR (zc b2 c)))]:=by
 refine bS Tryz.func162 rfl<|ac rfl (uS) ?_
 exact ag (bb fR rfl aa)
theorem rU {v w:Rat}:Ok Tryz.prog 140 [.a ((cR v++cR w))] [.a ((cR v++cR 0++cR w++cR 0++cR 0))]:=by
 refine eG Tryz.func140 11 [.cell 2 84] rfl<|ab<|ah<|ab<|nj 8 rfl rfl<|dO 1<|bA (qw (cR v) bZ rfl)<|bA (mg rfl (s9))<|dO 1<|bA (qw (cR w) bZ rfl)<|bA (mg rfl (s9))<|bA (mg rfl (s9))<|bA (aG (us:=(cR v++cR 0++cR w++cR 0++cR 0)) OD MA rfl rfl rfl) ?_
 refine nW<|dh<|jq<|bh ?_
 exact ag (bb bm rfl aa)
def nw (s t c:Int):Int:=if t=0∨s=t then s else if s=0 then t else s*c
def cT (a b m:Rat):Int:=nw (aM a 0) (aM b 0*aM m 0) (aM (a*a) (b*b*m))
def Bh (A B C D M N:Rat):Rat:=A*A+B*B*M-N*(C*C+D*D*M)
def rv (A B C D N:Rat):Rat:=A*B-N*(C*D)
def mC (A B C D M N:Rat):Int:=if M<0∨N<0 then 0 else nw (cT A B M) (cT C D M*aM N 0) (cT (Bh A B C D M N) (rv A B C D N+rv A B C D N) M)
theorem Dy {c:Int}(h:(s==0)=true):nw s t c=t:=by
 unfold nw
 grind
theorem DU {c:Int}(h:(t==0)=true):nw s t c=s:=by
 have h:t=0:=by grind
 unfold nw;rw[if_pos (.inl h)]
theorem Ed {c:Int}(h:(s==t)=true):nw s t c=s:=by
 have h:s=t:=by grind
 unfold nw;rw[if_pos (.inr h)]
theorem Ev {c:Int}(h1:(s==0)=false) (h2:(t==0)=false) (h3:(s==t)=false):nw s t c=s*c:=by
 have h1:s≠0:=by grind
 have h2:t≠0:=by grind
 have h3:s≠t:=by grind
 unfold nw;rw[if_neg (by omega),if_neg h1]
theorem fB (x y:Rat): -1≤aM x y∧aM x y≤1:=by
 unfold aM
 split
 ·omega
 ·split<;>omega
theorem kE (h: -1≤s∧s≤1) (h': -1≤t∧t≤1): -1≤s*t∧s*t≤1:=by
 have hs:s= -1∨s=0∨s=1:=by omega
 grind
theorem Ee {c:Int}(h: -1≤s∧s≤1) (h': -1≤t∧t≤1) (h2: -1≤c∧c≤1): -1≤nw s t c∧nw s t c≤1:=by
 unfold nw
 split
 ·exact h
 ·split
  ·grind
  ·exact kE h h2
theorem iT (a b m:Rat): -1≤cT a b m∧cT a b m≤1:=Ee (fB _ _) (kE (fB _ _) (fB _ _)) (fB _ _)
theorem K8 (h:decide (aM x 0<0)=true):x<0:=BK.1 (by simpa using h)
theorem MP (h:decide (aM x 0<0)=false): ¬x<0:=fun e=>by have:=BK.2 e;simp at h;omega
theorem EQ (h:M<0∨N<0):mC A B C D M N=0:=by unfold mC;rw[if_pos h]
theorem rm (h: ¬M<0) (h': ¬N<0):mC A B C D M N=nw (cT A B M) (cT C D M*aM N 0) (cT (Bh A B C D M N) (rv A B C D N+rv A B C D N) M):=by
 unfold mC;rw[if_neg (fun e=>e.elim h h')]
theorem rJ (ha:Rz 2000000 a) (hb:Rz 2000000 b) (hm:Rz 2000000 m):Ok Tryz.prog 216 [dR a,dR b,dR m] [.c (.i .i64 (cT a b m))]:=by
 have ka:Rz 6000000 a:=ha.m_
 have kb:Rz 6000000 b:=hb.m_
 have hp:=kE (fB b 0) (fB m 0)
 have hp2:=kE (fB a 0) (fB (a*a) (b*b*m))
 refine bS Tryz.func216 rfl<|cS 9 [] ?_
 refine aO rfl (bF) ?_
 refine aO rfl (bF) ?_
 refine aO rfl (bF) ?_
 refine aq (bQ ((aM b 0)*(aM m 0)) (eQ (by omega) (by omega)) rfl) ?_
 refine dF (au rfl) (fun c1 hb1=>?_)
 cases c1
 ·refine dF (au rfl) (fun c2 hb2=>?_)
  cases c2
  ·refine cd rfl (fun hc3=>?_) (fun hc3=>?_)
   ·refine cd rfl (fun hc4=>?_) (fun hc4=>?_)
    ·exact absurd hc4 (by rw[hb1];decide)
    ·refine ag ?_
     unfold cT
     rw[Ed hc3]
     exact am aa
   ·refine cS 12 [] ?_
    refine aO rfl (bV (bd ha) (bd ha)) ?_
    refine aO rfl (bV (bd hb) (bd hb)) ?_
    refine aO rfl (bV (bd (bj hb hb)) (bd hm)) ?_
    refine aO rfl (eF (bd (bj ha ha)) (bd (bj (bj hb hb) hm))) ?_
    refine aq (bQ ((aM a 0)*(aM (a*a) ((b*b)*m))) (eQ (by omega) (by omega)) rfl)<|ag ?_
    unfold cT
    rw[Ev hb1 hb2 hc3]
    exact am aa
  ·refine kG rfl ?_
   refine cd rfl (fun hc5=>?_) (fun hc5=>?_)
   ·exact absurd hc5 (by rw[hb1];decide)
   ·refine ag ?_
    unfold cT
    rw[DU hb2]
    exact am aa
 ·refine ar (au rfl)<|kG rfl ?_
  refine cd rfl (fun hc6=>?_) (fun hc6=>?_)
  ·refine ag ?_
   unfold cT
   rw[Dy hb1]
   exact am aa
  ·exact absurd hb1 (by rw[hc6];decide)
theorem xu (hA:Rz 160000 A) (hB:Rz 160000 B) (hC:Rz 160000 C) (hD:Rz 160000 D) (hM:Rz 160000 M) (hN:Rz 160000 N):Ok Tryz.prog 188 [.a ((cR A++cR B++cR C++cR D++cR M++cR N))] [.c (.i .i64 (mC A B C D M N))]:=by
 have z1:=kE (iT C D M) (fB N 0)
 have z2:=kE (iT A B M) (iT (A*A+B*B*M-N*(C*C+D*D*M)) ((A*B-N*(C*D))+(A*B-N*(C*D))) M)
 refine bS Tryz.func188 rfl ?_
 refine ac rfl (bF) ?_
 refine dF (au rfl) (fun c1 hb1=>?_)
 cases c1
 ·have n1:=MP hb1
  refine ac rfl (bF) ?_
  refine cd rfl (fun hc2=>?_) (fun hc2=>?_)
  ·refine ag ?_
   rw[EQ (.inr (K8 hc2))]
   exact am aa
  ·have n2:=MP hc2
   refine cS 20 [] ?_
   refine aO rfl (rJ (bd hA) (bd hB) (bd hM)) ?_
   refine aO rfl (rJ (bd hC) (bd hD) (bd hM)) ?_
   refine aO rfl (bF) ?_
   refine aq (bQ ((cT C D M)*(aM N 0)) (eQ (by omega) (by omega)) rfl) ?_
   refine dF (au rfl) (fun c3 hb3=>?_)
   cases c3
   ·refine dF (au rfl) (fun c4 hb4=>?_)
    cases c4
    ·refine cd rfl (fun hc5=>?_) (fun hc5=>?_)
     ·refine cd rfl (fun hc6=>?_) (fun hc6=>?_)
      ·exact absurd hc6 (by rw[hb3];decide)
      ·refine ag ?_
       rw[rm n1 n2,Ed hc5]
       exact am aa
     ·refine cS 18 [] ?_
      refine aO rfl (bV (bd hC) (bd hC)) ?_
      refine aO rfl (bV (bd hD) (bd hD)) ?_
      refine aO rfl (bV (bd (bj hD hD)) (bd hM)) ?_
      refine aO rfl (fa (bd (bj hC hC)) (bd (bj (bj hD hD) hM))) ?_
      refine aO rfl (bV (bd hN) (bd (Rz.add (bj hC hC) (bj (bj hD hD) hM))))<|cS 17 [] ?_
      refine aO rfl (bV (bd hA) (bd hA)) ?_
      refine aO rfl (bV (bd hB) (bd hB)) ?_
      refine aO rfl (bV (bd (bj hB hB)) (bd hM)) ?_
      refine aO rfl (fa (bd (bj hA hA)) (bd (bj (bj hB hB) hM))) ?_
      refine aO rfl (lq (bd (Rz.add (bj hA hA) (bj (bj hB hB) hM))) (bd (bj hN (Rz.add (bj hC hC) (bj (bj hD hD) hM)))))<|cS 15 [] ?_
      refine aO rfl (bV (bd hA) (bd hB)) ?_
      refine aO rfl (bV (bd hC) (bd hD))<|aO rfl (bV (bd hN) (bd (bj hC hD)))<|aO rfl (lq (bd (bj hA hB)) (bd (bj hN (bj hC hD))))<|cS 10 [] ?_
      refine aO rfl (fa (bd (jA (bj hA hB) (bj hN (bj hC hD)))) (bd (jA (bj hA hB) (bj hN (bj hC hD))))) ?_
      refine aO rfl (rJ (bd (jA (Rz.add (bj hA hA) (bj (bj hB hB) hM)) (bj hN (Rz.add (bj hC hC) (bj (bj hD hD) hM))))) (bd (Rz.add (jA (bj hA hB) (bj hN (bj hC hD))) (jA (bj hA hB) (bj hN (bj hC hD))))) (bd hM)) ?_
      refine aq (bQ ((cT A B M)*(cT (((A*A)+((B*B)*M))-(N*((C*C)+((D*D)*M)))) (((A*B)-(N*(C*D)))+((A*B)-(N*(C*D)))) M)) (eQ (by omega) (by omega)) rfl)<|ag ?_
      rw[rm n1 n2,Ev hb3 hb4 hc5]
      exact am aa
    ·refine kG rfl ?_
     refine cd rfl (fun hc7=>?_) (fun hc7=>?_)
     ·exact absurd hc7 (by rw[hb3];decide)
     ·refine ag ?_
      rw[rm n1 n2,DU hb4]
      exact am aa
   ·refine ar (au rfl)<|kG rfl ?_
    refine cd rfl (fun hc8=>?_) (fun hc8=>?_)
    ·refine ag ?_
     rw[rm n1 n2,Dy hb3]
     exact am aa
    ·exact absurd hb3 (by rw[hc8];decide)
 ·refine kG rfl<|ag ?_
  rw[EQ (.inl (K8 hb1))]
  exact am aa
theorem AK (ha:Rz 6000000 a) (_hb:Rz 6000000 b) (hd:Rz 6000000 d) (he:Rz 6000000 e):Ok Tryz.prog 189 [.a ((cR a++cR b++cR c)),.a ((cR d++cR e++cR f))] [.a ((cR (a-d)++cR b++cR (-e)++cR 0++cR c++cR f))]:=by
 refine eG Tryz.func189 21 [.cell 4 241] rfl<|ab<|ah<|ab<|nj 16 rfl rfl<|dO 1<|bA (qw (cR a) bZ rfl)<|dO 1<|bA (qw (cR d) bZ rfl)<|bA (mg rfl (lq (bd ha) (bd hd)))<|dO 1<|bA (qw (cR b) bZ rfl)<|dO 1<|bA (qw (cR e) bZ rfl) ?_
 refine bA (mg rfl (dP (bd he)))<|bA (mg rfl ((show Ok Tryz.prog 18 [.c (.i .i64 0)] [dR 0] from eu (by omega) (by omega))))<|dO 1<|bA (qw (cR c) bZ rfl)<|dO 1<|bA (qw (cR f) bZ rfl)<|bA (aG (us:=(cR (a-d)++cR b++cR (-e)++cR 0++cR c++cR f)) QX MV rfl rfl rfl) ?_
 refine nW<|dh<|jq<|bh ?_
 exact ag (bb QB rfl aa)
theorem Al (ha:Rz 60000 a) (hb:Rz 60000 b) (hc:Rz 60000 c) (hd:Rz 60000 d) (he:Rz 60000 e) (hf:Rz 60000 f):Ok Tryz.prog 160 [.a ((cR a++cR b++cR c)),.a ((cR d++cR e++cR f))] [.c (.i .i64 (mC (a-d) b (-e) 0 c f))]:=by
 have ka:Rz 6000000 a:=ha.m_
 have ma:Rz 160000 a:=ha.m_
 have kb:Rz 6000000 b:=hb.m_
 have mb:Rz 160000 b:=hb.m_
 have kc:Rz 6000000 c:=hc.m_
 have mc:Rz 160000 c:=hc.m_
 have kd:Rz 6000000 d:=hd.m_
 have md:Rz 160000 d:=hd.m_
 have ke:Rz 6000000 e:=he.m_
 have me:Rz 160000 e:=he.m_
 have kf:Rz 6000000 f:=hf.m_
 have mf:Rz 160000 f:=hf.m_
 have m1:Rz 160000 (a-d):=(ha.sub hd).m_
 have m2:Rz 160000 (-e):=me.neg
 have m0:Rz 160000 (0:Rat):=ji (n:=0) (mA (by decide) (by decide) (by decide)) (by decide)
 refine bS Tryz.func160 rfl ?_
 refine ac rfl (AK (by assumption) (by assumption) (by assumption) (by assumption)) ?_
 refine ac rfl (xu (by assumption) (by assumption) (by assumption) (by assumption) (by assumption) (by assumption)) ?_
 exact ag (am aa)
def rB (b c:Rat):Rat:=if b=0∨c=0 then 0 else b
def rC (b c:Rat):Rat:=if b=0∨c=0 then 0 else c
theorem CC (h:b=0∨c=0):rB b c=0:=by unfold rB;rw[if_pos h]
theorem CE (h:b=0∨c=0):rC b c=0:=by unfold rC;rw[if_pos h]
theorem OO (h:b≠0) (h':c≠0):rB b c=b:=by unfold rB;rw[if_neg (fun e=>e.elim h h')]
theorem NP (h:b≠0) (h':c≠0):rC b c=c:=by unfold rC;rw[if_neg (fun e=>e.elim h h')]
def s3 (a b c:Rat):Int:=if aM a 0=aM b 0∨aM b 0=0 then aM a 0 else if aM a 0=0 then aM b 0 else if 0<a*a-b*b*c then aM a 0 else aM b 0
theorem SV (h:(aM a 0==aM b 0)=true):s3 a b c=aM a 0:=by unfold s3;rw[if_pos (.inl (by simpa using h))]
theorem SC (h:(aM b 0==0)=true):s3 a b c=aM a 0:=by unfold s3;rw[if_pos (.inr (by simpa using h))]
theorem Oj (h:(aM a 0==aM b 0)=false) (h2:(aM b 0==0)=false):s3 a b c=if aM a 0=0 then aM b 0 else if 0<a*a-b*b*c then aM a 0 else aM b 0:=by
 unfold s3;rw[if_neg (fun e=>e.elim (by simpa using h) (by simpa using h2))]
theorem SN (h:decide (aM x 0>0)=true):0<x:=mZ.1 (by simpa using h)
theorem R8 (h:decide (aM x 0>0)=false): ¬0<x:=fun e=>by have:=mZ.2 e;simp at h;omega
theorem S0 (h:(s==t)=true):s=t:=by simpa using h
theorem Q3 (h:(s==t)=false):s≠t:=by simpa using h
theorem NN (hf: ¬OH b c e f) (h1:b≠0) (h2:e≠0):(aM c f==0)=true:=by
 rw[r_eqb']
 exact oT fun h=>hf ⟨h1,h2,h⟩
where
 r_eqb' {x y:Rat}:((aM x y==0)=true)=(x=y):=by rw[beq_iff_eq];exact propext lf
theorem sj (ha:Rz 6000000 a):Ok Tryz.prog 210 [dR a] [dR (a*a)]:=by
 refine bS Tryz.func210 rfl<|ac rfl (bV (bd ha) (bd ha)) ?_
 exact ag (bb bZ rfl aa)
theorem vH (ha:Rz 1000000 a) (hb:Rz 1000000 b) (hc:Rz 1000000 c):Ok Tryz.prog 182 [.a ((cR a++cR b++cR c))] [dR (a*a-b*b*c)]:=by
 have ka:Rz 6000000 a:=ha.m_
 have kb:Rz 6000000 b:=hb.m_
 have kc:Rz 6000000 c:=hc.m_
 refine bS Tryz.func182 rfl<|cS 10 [] ?_
 refine aO rfl (sj (bd ha)) ?_
 refine aO rfl (sj (bd hb)) ?_
 refine aO rfl (bV (bd (bj hb hb)) (bd hc)) ?_
 refine aO rfl (lq (bd (bj ha ha)) (bd (bj (bj hb hb) hc))) ?_
 exact ag (bb bZ rfl aa)
theorem lJ (ha:Rz 1000000 a) (hb:Rz 1000000 b) (hc:Rz 1000000 c):Ok Tryz.prog 157 [.a ((cR a++cR b++cR c))] [.c (.i .i64 (s3 a b c))]:=by
 refine bS Tryz.func157 rfl<|cS 8 [] ?_
 refine aO rfl (bF) ?_
 refine aO rfl (bF) ?_
 refine dF (au rfl) (fun c1 hb1=>?_)
 cases c1
 ·refine cd rfl (fun hc2=>?_) (fun hc2=>?_)
  ·refine ag ?_
   rw[SC hc2]
   exact am aa
  ·refine cd rfl (fun hc3=>?_) (fun hc3=>?_)
   ·refine ag ?_
    rw[Oj hb1 hc2,if_pos (S0 hc3)]
    exact am aa
   ·refine ac rfl (vH (by assumption) (by assumption) (by assumption))<|ac rfl (bF) ?_
    refine cd rfl (fun hc4=>?_) (fun hc4=>?_)
    ·refine ag ?_
     rw[Oj hb1 hc2,if_neg (Q3 hc3),if_pos (SN hc4)]
     exact am aa
    ·refine ag ?_
     rw[Oj hb1 hc2,if_neg (Q3 hc3),if_neg (R8 hc4)]
     exact am aa
 ·refine kG rfl<|ag ?_
  rw[SV hb1]
  exact am aa
theorem kF:Ok Tryz.prog 215 [dR a,dR b,dR c] [.a ((cR a++cR (rB b c)++cR (rC b c)))]:=by
 refine bS Tryz.func215 rfl<|ac rfl (jd) ?_
 refine dF (au rfl) (fun c1 hb1=>?_)
 cases c1
 ·refine ac rfl (jd) ?_
  refine cd rfl (fun hc2=>?_) (fun hc2=>?_)
  ·refine ac rfl (je) ?_
   refine ag ?_
   rw[CC (.inr (Ai hc2)),CE (.inr (Ai hc2))]
   exact bb fR rfl aa
  ·refine ar (aG (us:=(cR a++cR b++cR c)) BO xr rfl rfl rfl) ?_
   refine ag ?_
   rw[OO (vT hb1) (vT hc2),NP (vT hb1) (vT hc2)]
   exact bb fR rfl aa
 ·refine kG rfl ?_
  refine ac rfl (je) ?_
  refine ag ?_
  rw[CC (.inl (Ai hb1)),CE (.inl (Ai hb1))]
  exact bb fR rfl aa
theorem rj (hc:Rz 6000000 c) (hf:Rz 6000000 f) (hb: ¬OH b c e f):Ok Tryz.prog 221 [.a ((cR a++cR b++cR c)),.a ((cR d++cR e++cR f))] [dR (cc b c f),.c (.b true)]:=by
 refine bS Tryz.func221 rfl<|ac rfl (bF) ?_
 refine cd rfl (fun hc1=>?_) (fun hc1=>?_)
 ·refine ag ?_
  rw[KG (Ai hc1)]
  exact bb bZ rfl (am aa)
 ·refine cS 16 [4,999999] ?_
  refine aO rfl (bF) ?_
  refine pr (au rfl) (fun c2 hb2=>?_)
  cases c2
  ·refine aO rfl (eF (bd hc) (bd hf)) ?_
   refine DQ.mk<|il (fI bZ rfl) rfl rfl rfl rfl<|ez ?_
   refine ag ?_
   rw[yA (vT hc1),NN hb (vT hc1) (vT hb2)]
   exact bb bZ rfl (am aa)
  ·refine DQ.mk<|DC (fI bZ rfl) rfl rfl (by kernel_rfl) rfl<|ez ?_
   refine ag ?_
   rw[yA (vT hc1)]
   exact bb bZ rfl (am aa)
theorem FS (ha:Rz 1000000 a) (hb:Rz 1000000 b) (hc:Rz 1000000 c) (hd:Rz 1000000 d) (he:Rz 1000000 e) (hf:Rz 1000000 f) (hbad: ¬OH b c e f):Ok Tryz.prog 213 [.a ((cR a++cR b++cR c)),.a ((cR d++cR e++cR f))] [.a ((cR (a+d)++cR (rB (b+e) (cc b c f))++cR (rC (b+e) (cc b c f)))),.c (.i .i64 0)]:=by
 have ka:Rz 6000000 a:=ha.m_
 have kb:Rz 6000000 b:=hb.m_
 have kc:Rz 6000000 c:=hc.m_
 have kd:Rz 6000000 d:=hd.m_
 have ke:Rz 6000000 e:=he.m_
 have kf:Rz 6000000 f:=hf.m_
 refine bS Tryz.func213 rfl<|ac rfl (rj (by assumption) (by assumption) (by assumption))<|nE rfl<|cS 12 [] ?_
 refine aO rfl (fa (bd ha) (bd hd)) ?_
 refine aO rfl (fa (bd hb) (bd he)) ?_
 refine aO rfl (kF) ?_
 exact ag (bb fR rfl (am aa))
theorem xM (ha:Rz 1000000 a) (hb:Rz 1000000 b) (hc:Rz 1000000 c) (hd:Rz 1000000 d) (he:Rz 1000000 e) (hf:Rz 1000000 f) (hbad: ¬OH b c e f):Ok Tryz.prog 195 [.a ((cR a++cR b++cR c)),.a ((cR d++cR e++cR f))] [.a ((cR (a*d+b*e*cc b c f)++cR (rB (a*e+b*d) (cc b c f))++cR (rC (a*e+b*d) (cc b c f)))),.c (.i .i64 0)]:=by
 have ka:Rz 6000000 a:=ha.m_
 have kb:Rz 6000000 b:=hb.m_
 have kc:Rz 6000000 c:=hc.m_
 have kd:Rz 6000000 d:=hd.m_
 have ke:Rz 6000000 e:=he.m_
 have kf:Rz 6000000 f:=hf.m_
 have hcc:Rz 1000000 (cc b c f):=by unfold cc;split<;>assumption
 have z1:Rz 6000000 (b*e):=(bj hb he).m_
 have z2:Rz 6000000 (cc b c f):=hcc.m_
 have z3:Rz 6000000 (b*e*cc b c f):=(bj (bj hb he) hcc).m_
 refine bS Tryz.func195 rfl<|ac rfl (rj (by assumption) (by assumption) (by assumption))<|nE rfl<|cS 14 [] ?_
 refine aO rfl (bV (by first|assumption|exact dX ha (by decide)) (by first|assumption|exact dX hd (by decide))) ?_
 refine aO rfl (bV (by first|assumption|exact dX hb (by decide)) (by first|assumption|exact dX he (by decide))) ?_
 refine aO rfl (bV (by first|assumption|exact dX (bj hb he) (by decide)) (by first|assumption|exact dX (by assumption) (by decide))) ?_
 refine aO rfl (fa (by first|assumption|exact dX (bj ha hd) (by decide)) (by first|assumption|exact dX (bj (bj hb he) (by assumption)) (by decide))) ?_
 refine cS 12 [] ?_
 refine aO rfl (bV (by first|assumption|exact dX ha (by decide)) (by first|assumption|exact dX he (by decide))) ?_
 refine aO rfl (bV (by first|assumption|exact dX hb (by decide)) (by first|assumption|exact dX hd (by decide))) ?_
 refine aO rfl (fa (by first|assumption|exact dX (bj ha he) (by decide)) (by first|assumption|exact dX (bj hb hd) (by decide))) ?_
 refine ac rfl (kF) ?_
 exact ag (bb fR rfl (am aa))
theorem jf (ha:Rz 6000000 a) (hd:Rz 6000000 d):Ok Tryz.prog 183 [.a ((cR a++cR b++cR c)),dR d] [.a ((cR (a+d)++cR b++cR c))]:=by
 refine bS Tryz.func183 rfl<|cS 9 [] ?_
 refine aO rfl (fa (bd ha) (bd hd)) ?_
 refine aq (aG (us:=(cR (a+d)++cR b++cR c)) BO xr rfl rfl rfl) ?_
 exact ag (bb fR rfl aa)
theorem pS (ha1:Rz 300 a1) (hb1:Rz 300 b1) (ha2:Rz 300 a2) (hb2:Rz 300 b2) (hc:Rz 300 c):Ok Tryz.prog 90 [.a ((cR a1++cR b1++cR a2++cR b2++cR c))] [.c (.b (tq b1 b2 c))]:=by
 refine bS Tryz.func90 rfl ?_
 refine ac rfl (gW (bd ha1)) ?_
 refine ar (au rfl) ?_
 refine ac rfl (gW (bd ha2)) ?_
 refine ar (au rfl) ?_
 refine ac rfl (gW (bd hb1)) ?_
 refine ar (au rfl) ?_
 refine ac rfl (gW (bd hb2)) ?_
 refine ar (au rfl) ?_
 refine ac rfl (gW (bd hc)) ?_
 refine nE rfl ?_
 refine ac rfl (jd) ?_
 refine dF (au rfl) (fun c1 hb1=>?_)
 cases c1
 ·refine nE rfl<|ac rfl (AC (bd hc))<|ac rfl (jd) ?_
  refine dF (au rfl) (fun c2 hb2=>?_)
  cases c2
  ·refine ag ?_
   rw[Nd hb1,hb2,ib]
   exact am aa
  ·refine ag ?_
   rw[Nd hb1,hb2,du]
   exact am aa
 ·refine ac rfl (jd) ?_
  refine cd rfl (fun hc3=>?_) (fun hc3=>?_)
  ·refine ac rfl (jd)<|ag ?_
   rw[QI hb1 hc3]
   exact am aa
  ·refine ac rfl (AC (bd hc))<|ac rfl (jd) ?_
   refine dF (au rfl) (fun c4 hb4=>?_)
   cases c4
   ·refine ag ?_
    rw[Na hc3,hb4,ib]
    exact am aa
   ·refine ag ?_
    rw[Na hc3,hb4,du]
    exact am aa
def w8 (a b c p q r:Rat):Int:=mC (a-p) b (-q) 0 (zc b c) (zc q r)
def ns (a1 b1 a2 b2 c p1 q1 p2 q2 r:Rat):Int:=if w8 a1 b1 c p1 q1 r≠0 then w8 a1 b1 c p1 q1 r else w8 a2 b2 c p2 q2 r
theorem LN {r:Rat}(h:(w8 a1 b1 c p1 q1 r !=0)=true):ns a1 b1 a2 b2 c p1 q1 p2 q2 r=w8 a1 b1 c p1 q1 r:=by unfold ns;rw[if_pos (by simpa using h)]
theorem Lc {r:Rat}(h:(w8 a1 b1 c p1 q1 r !=0)=false):ns a1 b1 a2 b2 c p1 q1 p2 q2 r=w8 a2 b2 c p2 q2 r:=by unfold ns;rw[if_neg (by simpa using h)]
theorem Rz.zero (hk:1≤k):Rz k (0:Rat):=⟨⟨by have:=cW k;rw[Rat.zero_num];omega,by have:=cW k;rw[Rat.zero_num];omega⟩,by rw[Rat.zero_den];exact Sz.one hk⟩
theorem Rz.zc (h:Rz k c) (hk:1≤k):Rz k (zc b c):=by
 unfold Go.Proofs.YtkfgimjmgfoneaaGreatDoor.zc
 split
 ·exact Rz.zero hk
 ·exact h
def rt (c:Rat):Rat:=Rat.divInt (cn c.num) (cn (c.den:Int))
theorem K5 (h:j9 c=true):dQ (if j9 c then cn c.num else 0) (if j9 c then cn (c.den:Int) else 0)=dR (rt c):=by
 rw[if_pos h,if_pos h]
 unfold j9 Ca at h
 simp only[dU,beq_iff_eq] at h
 obtain⟨h1,h2⟩:=h
 have d0:=fT (c.den:Int)
 have dp:=den_pos c
 have hd:0<cn (c.den:Int):=by grind
 have hg:Int.gcd (cn c.num) (cn (c.den:Int))=1:=by
  have hr:Int.gcd c.num (c.den:Int)=1:=c.reduced
  have d1:Int.gcd (cn c.num) (cn (c.den:Int))∣Int.gcd c.num (c.den:Int):=by
   refine Int.dvd_gcd ?_ ?_
   ·have t:((Int.gcd (cn c.num) (cn (c.den:Int)):Nat):Int)∣cn c.num*cn c.num:=Int.dvd_mul_of_dvd_left (Int.gcd_dvd_left ..)
    rw[h1] at t;exact t
   ·have t:((Int.gcd (cn c.num) (cn (c.den:Int)):Nat):Int)∣cn (c.den:Int)*cn (c.den:Int):=Int.dvd_mul_of_dvd_left (Int.gcd_dvd_right ..)
    rw[h2] at t;exact t
  rw[hr] at d1
  exact Nat.dvd_one.1 d1
 exact(uG hd (by rw[hg];rfl)).symm
def Ly (x:Nat→Rat):Prop:= ∀e:Rat,0<e→ ∃K:Nat,∀i j,K≤i→K≤j→x i-x j≤e
def AV (x:Nat→Rat):Prop:= ∃e:Rat,0<e∧ ∃K:Nat,∀k,K≤k→e≤x k
def FP (x:Nat→Rat):Prop:= ∀e:Rat,0<e→ ∃K:Nat,∀k,K≤k→ -e≤x k∧x k≤e
structure Re where
 s:Nat→Rat
 c:Ly s
theorem Re.ext {x y:Re}(h: ∀k,x.s k=y.s k):x=y:=by
 cases x;cases y
 have:_=_:=funext h
 subst this;rfl
theorem kj (h:0<e):0<e/2:=by grind
theorem zY (h:0<e) (h2:0<B):0<e/B∧B*(e/B)=e:=by
 refine⟨?_,by grind⟩
 exact Rat.mul_pos h (Rat.inv_pos.2 h2)
theorem Re.bnd (x:Re): ∃B:Rat,0<B∧ ∃K:Nat,∀k,K≤k→ -B≤x.s k∧x.s k≤B:=by
 obtain⟨K,h⟩:=x.c 1 (by decide)
 by_cases hs:0≤x.s K
 ·exact⟨x.s K+1,by grind,K,fun k hk=>by have h1:=h k K hk (aX _);have h2:=h K k (aX _) hk;constructor<;>grind⟩
 ·exact⟨1-x.s K,by grind,K,fun k hk=>by have h1:=h k K hk (aX _);have h2:=h K k (aX _) hk;constructor<;>grind⟩
theorem xT (q:Rat):Ly (fun _=>q):=fun e he=>⟨0,fun i j _ _=>by grind⟩
theorem L7 {x y:Nat→Rat}(hx:Ly x) (hy:Ly y):Ly (fun k=>x k+y k):=fun e he=>by
 obtain⟨K,h⟩:=hx (e/2) (kj he)
 obtain⟨L,g⟩:=hy (e/2) (kj he)
 exact⟨max K L,fun i j hi hj=>by have h1:=h i j (by omega) (by omega);have h2:=g i j (by omega) (by omega);grind⟩
theorem MB {x:Nat→Rat}(hx:Ly x):Ly (fun k=> -x k):=fun e he=>by
 obtain⟨K,h⟩:=hx e he
 exact⟨K,fun i j hi hj=>by have h1:=h j i hj hi;grind⟩
theorem Ds (h1: -e≤a) (h2:a≤e) (h3: -f≤b) (h4:b≤f):a*b≤e*f∧ -(e*f)≤a*b:=by
 have p1:0≤(e-a)*(f+b):=kA (by grind) (by grind)
 have p2:0≤(e+a)*(f-b):=kA (by grind) (by grind)
 have p3:0≤(e-a)*(f-b):=kA (by grind) (by grind)
 have p4:0≤(e+a)*(f+b):=kA (by grind) (by grind)
 grind
theorem KU (x y:Re):Ly (fun k=>x.s k*y.s k):=fun e he=>by
 obtain⟨B,hB,K,hb⟩:=x.bnd
 obtain⟨D,hD,L,hd⟩:=y.bnd
 obtain⟨d1,e1⟩:=zY (kj he) hB
 obtain⟨d2,e2⟩:=zY (kj he) hD
 obtain⟨K',h⟩:=x.c _ d2
 obtain⟨L',g⟩:=y.c _ d1
 refine⟨max (max K L) (max K' L'),fun i j hi hj=>?_⟩
 have b1:=hb i (by omega)
 have b2:=hd j (by omega)
 have h1:=h i j (by omega) (by omega)
 have h2:=h j i (by omega) (by omega)
 have g1:=g i j (by omega) (by omega)
 have g2:=g j i (by omega) (by omega)
 have p1:=(Ds b1.1 b1.2 (a:=x.s i) (b:=y.s i-y.s j) (f:=e/2/B) (by grind) (by grind)).1
 have p2:=(Ds b2.1 b2.2 (a:=y.s j) (b:=x.s i-x.s j) (f:=e/2/D) (by grind) (by grind)).1
 rw[e1] at p1
 rw[e2] at p2
 grind
def Re.of (q:Rat):Re:=⟨fun _=>q,xT q⟩
instance:Add Re:=⟨fun x y=>⟨fun k=>x.s k+y.s k,L7 x.c y.c⟩⟩
instance:Neg Re:=⟨fun x=>⟨fun k=> -x.s k,MB x.c⟩⟩
instance:_root_.Sub Re:=⟨fun x y=>x+ -y⟩
instance:Mul Re:=⟨fun x y=>⟨fun k=>x.s k*y.s k,KU x y⟩⟩
theorem bX (x y:Re) (k:Nat):(x+y).s k=x.s k+y.s k:=rfl
theorem cJ (x:Re) (k:Nat):(-x).s k= -x.s k:=rfl
theorem cE (x y:Re) (k:Nat):(x-y).s k=x.s k+ -y.s k:=rfl
theorem cz (x y:Re) (k:Nat):(x*y).s k=x.s k*y.s k:=rfl
theorem eE (q:Rat) (k:Nat):(Re.of q).s k=q:=rfl
theorem iS (x:Re):AV x.s∨FP x.s∨AV (-x).s:=by
 by_cases hn:FP x.s
 ·grind
 ·unfold FP at hn
  obtain⟨e,hn⟩:=sF.1 hn
  obtain⟨he,hn⟩:=tx.1 hn
  obtain⟨K,h⟩:=x.c (e/2) (kj he)
  have hn2:=not_exists.1 hn K
  obtain⟨k,hn3⟩:=sF.1 hn2
  obtain⟨hk,hn4⟩:=tx.1 hn3
  by_cases h1:e<x.s k
  ·exact .inl ⟨e/2,kj he,K,fun j hj=>by have:=h k j hk hj;grind⟩
  ·have h2:x.s k< -e:=by
    apply oT
    grind
   exact .inr (.inr ⟨e/2,kj he,K,fun j hj=>by rw[cJ];have:=h j k hj hk;grind⟩)
section
variable {x y z:Re}
theorem Lk (h:AV x.s): ¬AV (-x).s:=fun g=>by
 obtain⟨e,he,K,h⟩:=h
 obtain⟨f,hf,L,g⟩:=g
 have h1:=h (max K L) (by omega)
 have h2:=g (max K L) (by omega)
 rw[cJ] at h2
 grind
theorem tH (h:AV x.s): ¬FP x.s:=fun g=>by
 obtain⟨e,he,K,h⟩:=h
 obtain⟨L,g⟩:=g (e/2) (kj he)
 have h1:=h (max K L) (by omega)
 have h2:=g (max K L) (by omega)
 grind
theorem yi (h:FP x.s):FP (-x).s:=fun e he=>by
 obtain⟨K,h⟩:=h e he
 exact⟨K,fun k hk=>by rw[cJ];have:=h k hk;constructor<;>grind⟩
theorem LI (h:FP x.s) (g:FP y.s):FP (x+y).s:=fun e he=>by
 obtain⟨K,h⟩:=h (e/2) (kj he)
 obtain⟨L,g⟩:=g (e/2) (kj he)
 exact⟨max K L,fun k hk=>by rw[bX];have:=h k (by omega);have:=g k (by omega);constructor<;>grind⟩
theorem tF (h:AV x.s) (g:FP y.s):AV (x+y).s:=by
 obtain⟨e,he,K,h⟩:=h
 obtain⟨L,g⟩:=g (e/2) (kj he)
 exact⟨e/2,kj he,max K L,fun k hk=>by rw[bX];have:=h k (by omega);have:=g k (by omega);grind⟩
theorem DF (h:AV x.s) (g:AV y.s):AV (x+y).s:=by
 obtain⟨e,he,K,h⟩:=h
 obtain⟨f,hf,L,g⟩:=g
 exact⟨e,he,max K L,fun k hk=>by rw[bX];have:=h k (by omega);have:=g k (by omega);grind⟩
theorem uR (h:AV x.s) (g:AV y.s):AV (x*y).s:=by
 obtain⟨e,he,K,h⟩:=h
 obtain⟨f,hf,L,g⟩:=g
 refine⟨e*f,Rat.mul_pos he hf,max K L,fun k hk=>?_⟩
 rw[cz]
 have p1:0≤(x.s k-e)*f:=kA (by grind) (by grind)
 have p2:0≤x.s k*(y.s k-f):=kA (by grind) (by grind)
 grind
theorem r9 (x:Re) (g:FP y.s):FP (x*y).s:=fun e he=>by
 obtain⟨B,hB,K,hb⟩:=x.bnd
 obtain⟨d1,e1⟩:=zY he hB
 obtain⟨L,g⟩:=g _ d1
 refine⟨max K L,fun k hk=>?_⟩
 rw[cz]
 have h1:=hb k (by omega)
 have h2:=g k (by omega)
 have p:=Ds h1.1 h1.2 h2.1 h2.2
 rw[e1] at p
 exact⟨p.2,p.1⟩
theorem Fx (x:Re): - -x=x:=Re.ext fun k=>by rw[cJ,cJ];grind
theorem zG (x y:Re):x*y=y*x:=Re.ext fun k=>by rw[cz,cz];grind
theorem FQ (x y:Re): -(x*y)= -x*y:=Re.ext fun k=>by rw[cJ,cz,cz,cJ];grind
theorem F7 (x y:Re): -(x*y)=x* -y:=Re.ext fun k=>by rw[cJ,cz,cz,cJ];grind
theorem xv (x y:Re): -(x+y)= -x+ -y:=Re.ext fun k=>by rw[cJ,bX,bX,cJ,cJ];grind
noncomputable def bJ (x:Re):Int:=open Classical in if AV x.s then 1 else if AV (-x).s then-1 else 0
theorem kB:bJ x=1↔AV x.s:=by
 unfold bJ
 split
 ·rename_i h;simp[h]
 ·rename_i h;split<;>simp[h]
theorem jU:bJ x= -1↔AV (-x).s:=by
 unfold bJ
 split
 ·rename_i h;simp[Lk h]
 grind
theorem jw:bJ x=0↔FP x.s:=by
 unfold bJ
 split
 ·rename_i h;simp[tH h]
 ·rename_i h
  split
  ·rename_i h2
   have h3:=tH h2
   simp
   exact fun g=>h3 (yi g)
  ·rename_i h2
   simp
   exact((iS x).resolve_left h).resolve_right h2
theorem ep (x:Re):bJ x=1∨bJ x=0∨bJ x= -1:=by
 rcases iS x with h|h|h
 ·exact .inl (kB.2 h)
 ·exact .inr (.inl (jw.2 h))
 ·exact .inr (.inr (jU.2 h))
theorem fh (x:Re):bJ (-x)= -bJ x:=by
 rcases iS x with h|h|h
 ·rw[kB.2 h,jU,Fx];exact h
 ·rw[jw.2 h,jw.2 (yi h)];rfl
 ·rw[jU.2 h,kB.2 h];rfl
theorem ee (x y:Re):bJ (x*y)=bJ x*bJ y:=by
 rcases iS x with h|h|h<;>rcases iS y with g|g|g
 ·rw[kB.2 h,kB.2 g,kB.2 (uR h g)];rfl
 ·rw[kB.2 h,jw.2 g,jw.2 (r9 x g)];rfl
 ·rw[kB.2 h,jU.2 g,Int.one_mul,jU,F7];exact uR h g
 ·rw[jw.2 h,k9,jw,zG];exact r9 y h
 ·rw[jw.2 h,k9,jw,zG];exact r9 y h
 ·rw[jw.2 h,k9,jw,zG];exact r9 y h
 ·rw[jU.2 h,kB.2 g,Int.mul_one,jU,FQ];exact uR h g
 ·rw[jU.2 h,jw.2 g,jw.2 (r9 x g)];rfl
 ·rw[jU.2 h,jU.2 g]
  have e:x*y= -x* -y:=Re.ext fun k=>by rw[cz,cz,cJ,cJ];grind
  rw[e,kB.2 (uR h g)];rfl
theorem dw (x:Re) (h:bJ y=0):bJ (x+y)=bJ x:=by
 have g:=jw.1 h
 rcases iS x with h|h|h
 ·rw[kB.2 h,kB.2 (tF h g)]
 ·rw[jw.2 h,jw.2 (LI h g)]
 ·rw[jU.2 h,jU,xv];exact tF h (yi g)
theorem KJ (x y:Re):x+y=y+x:=Re.ext fun k=>by rw[bX,bX];grind
theorem ni (h:bJ x=0) (y:Re):bJ (x+y)=bJ y:=by rw[KJ];exact dw y h
theorem ln (h:bJ x=bJ y):bJ (x+y)=bJ x:=by
 rcases ep x with g|g|g
 ·rw[g,kB];exact DF (kB.1 g) (kB.1 (h.symm.trans g))
 ·rw[dw x (h.symm.trans g)]
 ·rw[g,jU,xv];exact DF (jU.1 g) (jU.1 (h.symm.trans g))
theorem pA (h:bJ (x-y)=0):bJ x=bJ y:=by
 have e:x=(x-y)+y:=Re.ext fun k=>by rw[bX,cE];grind
 rw[e]
 exact ni h y
theorem jh (q:Rat):bJ (Re.of q)=aM q 0:=by
 unfold aM
 split
 ·rename_i h
  exact jU.2 ⟨-q,by grind,0,fun k _=>by rw[cJ,eE];grind⟩
 ·split
  ·rename_i h;exact kB.2 ⟨q,h,0,fun k _=>by rw[eE];grind⟩
  ·exact jw.2 fun e he=>⟨0,fun k _=>by rw[eE];constructor<;>grind⟩
end
theorem Az {X Y r n:Re}(hr:0≤bJ r) (hn:bJ (r*r-n)=0):bJ (X+Y*r)=nw (bJ X) (bJ Y*bJ n) (bJ (X*X-Y*Y*n)):=by
 have hrn:bJ r=bJ n:=by
  have h1:=pA hn
  rw[ee] at h1
  rcases ep r with h|h|h
  ·grind
  ·grind
  grind
 have ht:bJ (Y*r)=bJ Y*bJ n:=by rw[ee,hrn]
 rw[←ht]
 unfold nw
 split
 ·rename_i h
  rcases h with h|h
  ·exact dw X h
  ·exact ln h
 ·rename_i h
  split
  ·rename_i h2;exact ni h2 _
  ·rename_i h2
   have hopp:bJ (Y*r)= -bJ X:=by
    have a:=ep X
    have b:=ep (Y*r)
    omega
   have hm:bJ (X+ -(Y*r))=bJ X:=ln (by rw[fh,hopp];omega)
   have e1:bJ ((X+Y*r)*(X+ -(Y*r)))=bJ (X*X-Y*Y*n):=by
    refine pA ?_
    have e:(X+Y*r)*(X+ -(Y*r))-(X*X-Y*Y*n)= -(Y*Y)*(r*r-n):=Re.ext fun k=>by
     simp only[cE,cz,bX,cJ];grind
    rw[e,ee,hn,qF]
   rw[ee,hm] at e1
   have a:=ep X
   grind
def qm (m:Rat) (k:Nat):Rat:=(((m.den:Int)*((k:Int)+1):Int):Rat)
def M2 (m:Rat) (k:Nat):Int:=cn (m.num*(m.den:Int)*(((k:Int)+1)*((k:Int)+1)))
def qQ (m:Rat) (k:Nat):Rat:=((M2 m k:Int):Rat)/qm m k
theorem wN {y:Rat}(hd:0<d) (h:x*d≤y*d):x≤y:=by
 apply oT
 intro hn
 have h1:0<(x-y)*d:=Rat.mul_pos (by grind) hd
 grind
theorem Gs (m:Rat):m*((m.den:Int):Rat)=((m.num:Int):Rat):=by
 have h:=Rat.num_divInt_den m
 rw[Rat.divInt_eq_div] at h
 have hd:(0:Rat)<((m.den:Int):Rat):=Rat.intCast_pos.2 (by have:=m.den_pos;omega)
 grind
theorem rL (m:Rat) (k:Nat):0<qm m k:=by
 have h1:=den_pos m
 have h2:(0:Int)<(m.den:Int)*((k:Int)+1):=by grind
 exact Rat.intCast_pos.2 h2
theorem yo (m:Rat) (k:Nat):qQ m k*qm m k=((M2 m k:Int):Rat):=by
 have:=rL m k
 unfold qQ;grind
theorem JT (m:Rat) (k:Nat):m*(qm m k*qm m k)=((m.num*(m.den:Int)*(((k:Int)+1)*((k:Int)+1)):Int):Rat):=by
 have h:=Gs m
 unfold qm
 grind
theorem PO (m:Rat) (k:Nat):0≤M2 m k:=fT _
theorem HM (h:0≤m) (k:Nat):0≤m.num*(m.den:Int)*(((k:Int)+1)*((k:Int)+1)):=
 lC (lC (Rat.num_nonneg.2 h) (by have:=den_pos m;omega)) (lC (by omega) (by omega))
theorem zm (m:Rat) (k:Nat):0≤qQ m k:=by
 refine wN (rL m k) ?_
 rw[yo]
 have:(0:Rat)≤((M2 m k:Int):Rat):=Rat.intCast_nonneg.2 (PO m k)
 grind
theorem Jx (h:0≤m) (k:Nat):qQ m k*qQ m k≤m:=by
 have hd:=rL m k
 refine wN (Rat.mul_pos hd hd) ?_
 rw[JT]
 have e:qQ m k*qQ m k*(qm m k*qm m k)=((M2 m k*M2 m k:Int):Rat):=by
  rw[Rat.intCast_mul,←yo];grind
 rw[e]
 exact Rat.intCast_le_intCast.2 (uv (HM h k))
theorem GQ (h:0≤m) (k:Nat):m<(qQ m k+1/qm m k)*(qQ m k+1/qm m k):=by
 have hd:=rL m k
 have e:(qQ m k+1/qm m k)*(qQ m k+1/qm m k)*(qm m k*qm m k)=(((M2 m k+1)*(M2 m k+1):Int):Rat):=by
  rw[Rat.intCast_mul,Rat.intCast_add,←yo]
  grind
 have h1:=Rat.intCast_lt_intCast.2 (y5 (HM h k))
 rw[←JT] at h1
 have h2:m*(qm m k*qm m k)<(qQ m k+1/qm m k)*(qQ m k+1/qm m k)*(qm m k*qm m k):=by rw[e];exact h1
 apply oT
 intro hn
 have h3:0≤(m-(qQ m k+1/qm m k)*(qQ m k+1/qm m k))*(qm m k*qm m k):=kA (by grind) (by have:=Rat.mul_pos hd hd;grind)
 grind
theorem tw (m:Rat) (he:0<e) (hk:e.den≤k):0<1/qm m k∧1/qm m k≤e:=by
 have hd:=rL m k
 refine⟨?_,?_⟩
 ·have:=(zY (e:=1) (by decide) hd).1;exact this
 ·refine wN hd ?_
  have h1:=Gs e
  have h2:0<e.num:=Rat.intCast_pos.1 (by rw[←h1];exact Rat.mul_pos he (Rat.intCast_pos.2 (by have:=e.den_pos;omega)))
  have h3:(1:Rat)≤((e.num:Int):Rat):=by
   have:((1:Int):Rat)≤((e.num:Int):Rat):=Rat.intCast_le_intCast.2 (by omega)
   grind
  have h4:((e.den:Int):Rat)≤qm m k:=by
   refine Rat.intCast_le_intCast.2 ?_
   have:=den_pos m
   have h5:1*((k:Int)+1)≤(m.den:Int)*((k:Int)+1):=Int.mul_le_mul_of_nonneg_right (by omega) (by omega)
   omega
  have h6:0≤e*(qm m k-((e.den:Int):Rat)):=kA (by grind) (by grind)
  grind
theorem Po (h:0≤m):Ly (qQ m):=fun e he=>by
 refine⟨e.den,fun i j _ hj=>?_⟩
 obtain⟨hp,hs⟩:=tw m he hj
 have h1:=Jx h i
 have h2:=GQ h j
 have h3:=zm m i
 have h4:=zm m j
 apply oT
 intro hn
 have h5:0≤(qQ m i-(qQ m j+1/qm m j))*(qQ m i+(qQ m j+1/qm m j)):=kA (by grind) (by grind)
 grind
def Re.rt (m:Rat):Re:=⟨fun k=>if 0≤m then qQ m k else 0,by
 by_cases h:0≤m
 ·simp only[h,if_true];exact Po h
 ·simp only[h,if_false];exact xT 0⟩
theorem Ob {x:Re}(h: ∀k,0≤x.s k):0≤bJ x:=by
 rcases ep x with a|a|a
 ·omega
 ·omega
 ·obtain⟨e,he,K,g⟩:=jU.1 a
  have h1:=g K (aX _)
  rw[cJ] at h1
  grind
theorem MW (m:Rat):0≤bJ (Re.rt m):=Ob fun k=>by
 show 0≤(if 0≤m then qQ m k else 0)
 split
 ·exact zm m k
 ·exact Rat.le_refl
theorem Ak (h:0≤m):bJ (Re.rt m*Re.rt m-Re.of m)=0:=jw.2 fun e he=>by
 obtain⟨d1,d2⟩:=zY he (show 0<2*m+3 by grind)
 refine⟨(e/(2*m+3)).den,fun k hk=>?_⟩
 rw[cE,cz,eE]
 show-e≤(if 0≤m then qQ m k else 0)*(if 0≤m then qQ m k else 0)+ -m∧(if 0≤m then qQ m k else 0)*(if 0≤m then qQ m k else 0)+ -m≤e
 rw[if_pos h]
 obtain⟨hp,hs⟩:=tw m d1 hk
 obtain⟨hp1,hs1⟩:=tw m (e:=1) (by decide) (k:=k) (by
  have:(1:Rat).den=1:=rfl
  rw[this]
  have:=(e/(2*m+3)).den_pos
  omega)
 have h1:=Jx h k
 have h2:=GQ h k
 have h3:=zm m k
 refine⟨?_,by grind⟩
 have h4:qQ m k≤m+1:=by
  apply oT
  intro hn
  have h5:0≤(qQ m k-(m+1))*(qQ m k+(m+1)):=kA (by grind) (by grind)
  have h6:0≤m*m:=kA h h
  grind
 generalize 1/qm m k=d at*
 have h7:0≤d*((m+1)-qQ m k):=kA (by grind) (by grind)
 have h8:0≤d*(1-d):=kA (by grind) (by grind)
 have h9:0≤(2*m+3)*(e/(2*m+3)-d):=kA (by grind) (by grind)
 grind
theorem vz (x y:Rat):aM (x-y) 0=aM x y:=by
 unfold aM
 grind
theorem qL (x y:Rat):Re.of x*Re.of y=Re.of (x*y):=rfl
theorem Ha (x y:Rat):Re.of x+Re.of y=Re.of (x+y):=rfl
theorem uU (x y:Rat):Re.of x-Re.of y=Re.of (x-y):=Re.ext fun k=>by rw[cE,eE,eE,eE];grind
def gC (a b m:Rat):Re:=Re.of a+Re.of b*Re.rt m
theorem jC (h:0≤m):cT a b m=bJ (gC a b m):=by
 unfold gC
 rw[Az (n:=Re.of m) (MW m) (Ak h),jh,jh,jh,qL,qL,qL,uU,jh,vz]
 rfl
def PL (A B C D M N:Rat):Re:=gC A B M+gC C D M*Re.rt N
theorem G6 (hM:0≤M) (hN:0≤N):mC A B C D M N=bJ (PL A B C D M N):=by
 unfold PL
 rw[Az (n:=Re.of N) (MW N) (Ak hN),←jC hM,←jC hM,jh,rm (by grind) (by grind)]
 have e:bJ (gC A B M*gC A B M-gC C D M*gC C D M*Re.of N)=bJ (gC (Bh A B C D M N) (rv A B C D N+rv A B C D N) M):=by
  refine pA ?_
  have e:(gC A B M*gC A B M-gC C D M*gC C D M*Re.of N)-gC (Bh A B C D M N) (rv A B C D N+rv A B C D N) M=(Re.of (B*B-D*D*N))*(Re.rt M*Re.rt M-Re.of M):=Re.ext fun k=>by
   unfold gC Bh rv
   simp only[cE,cz,bX,eE];grind
  rw[e,ee,Ak hM,qF]
 rw[e,←jC hM]
theorem Gl (hc:0≤c) (hf:0≤f):mC (a-d) b (-e) 0 c f=bJ (gC a b c-gC d e f):=by
 rw[G6 hc hf]
 refine congrArg bJ (Re.ext fun k=>?_)
 unfold PL gC
 simp only[cE,cz,bX,eE];grind
end Go.Proofs.YtkfgimjmgfoneaaGreatDoor
