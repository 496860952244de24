/-Square roots of integers,program and reference. -/
import Derived.Test.YtegpmhlfjkhjmaaGreatYgG
import Derived.Test.YtegpmhlfjkhjmaaGreatRows
import Derived.Deep.Slices
import Derived.ProofKit
import Derived.OpenShut
import Derived.Carry
namespace Go.Proofs.YtegpmhlfjkhjmaaGreat
open Go Go.RowKit
variable {d m n:Int}{x y:Rat}
theorem aF:type_of% @Rz.mul:=@Rz.mul
theorem bY:type_of% @Rz.mono:=@Rz.mono
theorem cT:type_of% @Rz.sub:=@Rz.sub
theorem cS:type_of% @Rz.d:=@Rz.d
theorem er:type_of% @Rz.n:=@Rz.n
theorem dh:type_of% @Sz.mul:=@Sz.mul
theorem dm:type_of% @Rz.int:=@Rz.int
theorem ig:type_of% @Rz.add:=@Rz.add
theorem lj:type_of% @Rz.neg:=@Rz.neg
theorem lU:type_of% @Bool.and_false:=@Bool.and_false
theorem BZ {x:Int}(hx:Sz 99999999 x):Ok Tryz.prog 360 [dI x] [dI (bO x),.c (.i .i64 (if x<0 then 7 else 0))]:=by
 have h20:(2:Int)≠0:=by decide
 have hl:=gi hx
 have hs2:Sz 100000000 (2:Int):=cX (by omega) (by omega) (by omega)
 refine ex Tryz.func360 54 [.cell 2 36,.tmp 3] rfl<|ae<|ag<|ae<|ae<|ag ?_
 refine aS rfl (fun hc1=>?_) (fun hc1=>?_)
 ·have hn:x<0:=by simpa using hc1
  refine ae<|ag<|ar (az (us:=([.b false]++[.s 0 []])) I5 H3 rfl rfl rfl) ?_
  refine a9 ?_
  rw[uW hn,if_pos hn,xX]
  exact ah (aQ dJ rfl (ak aa))
 ·have hn:0≤x:=by have:=hc1;simp at this;omega
  refine aB<|ae<|ae<|ag ?_
  refine aS rfl (fun hc2=>?_) (fun hc2=>?_)
  ·have hz:x=0:=by have:=hc2;simp[dV] at this;omega
   refine ae<|ag<|ar (az (us:=([.b false]++[.s 0 []])) I5 H3 rfl rfl rfl) ?_
   refine a9 ?_
   rw[hz,Dz,xX,if_neg (by omega)]
   exact ah (aQ dJ rfl (ak aa))
  ·have hx0:0<x:=by have:=hc2;simp[dV] at this;omega
   obtain⟨k,hk⟩: ∃k:Nat,((dg x.natAbs).length+1)/2=k:=⟨_,rfl⟩
   have hpk:=cH k
   have hpc:cL (pw k)=cL (pw k):=rfl
   refine aB<|ae<|ag ?_
   refine ar (bZ ((((dg x.natAbs).length:Int))+1) (bm (by omega) (by omega)) rfl) ?_
   refine ar (jI (r:=(k:Int)) rfl rfl (by omega) (by rw[tJ (by omega),show(((dg x.natAbs).length:Int)+1)/2=(k:Int) from by omega];exact ii (by omega) (by omega)) rfl) ?_
   refine ae<|ag ?_
   refine DL.mk<|pD (kg (n:=k) xm rfl rfl (by omega) (by omega) rfl) rfl<|eQ ?_
   refine ar (wS xm rfl rfl) ?_
   refine DL.mk<|WD (wq xm rfl rfl rfl (by omega) rfl)<|eQ ?_
   refine ac rfl (sG)<|ae<|ag<|ac rfl (iy (by omega) (by omega))<|aP<|bF (ι:={r:Int // NInv 99999999 x r}) (fun i=>⟨54,[(1,.p 1 0),(2,.p 2 0),(3,.v (.c (.i .i64 0))),(5,.p 5 0),(6,.p 6 0)],[(1,36,cI x),(2,36,([.b false]++[.s 0 []])),(5,36,cI i.1),(6,36,cI 2)]⟩) (fun i=>i.1.toNat) ⟨pw k,NInv.start hx0 hx hk (by omega)⟩ (aA ⟨rfl,rfl,rfl,rfl,rfl,trivial⟩ ⟨rfl,rfl,by rw[show sg false (((pw k).natAbs:Nat):Int)=pw k from by rw[cJ];have:=cH k;omega];rfl,rfl,trivial⟩ rfl) ?_
   rintro⟨r,hg⟩
   replace hg:NInv 99999999 x r:=hg
   have hsr:=hg.sz
   have hr0:=hg.r0
   have hrn:r≠0:=by omega
   obtain⟨hsq,hsum,hsn⟩:=hg.sum hx hx0
   have a1:Sz 100000000 r:=hsr.m_
   have a2:Sz 100000000 (x.fdiv r):=hsq.m_
   have a3:Sz 100000000 x:=hx.m_
   dsimp only
   refine aP<|ae<|ag ?_
   refine ac rfl (mO (by assumption) (by assumption) (by assumption))<|ae<|fb 14 [10,11,999999] ?_
   refine aC rfl (sP (by assumption) (by assumption)) ?_
   refine aC rfl (mO (by assumption) (by assumption) (by assumption)) ?_
   refine DQ.mk<|fp (dL dJ rfl) rfl rfl rfl rfl<|dc ?_
   refine DQ.mk<|fp (dL dJ rfl) rfl rfl rfl rfl<|dc ?_
   refine ae<|ae<|ag ?_
   refine ac rfl (oR) ?_
   refine aS rfl (fun hc3=>?_) (fun hc3=>?_)
   ·have hst:=FA hc3
    refine ae<|ag ?_
    refine a9 ?_
    rw[hg.done hx0 hst,if_neg (by omega)]
    exact ah (aQ dJ rfl (ak aa))
   ·have hlt:=E3 hc3
    refine aB<|ag ?_
    exact⟨⟨(r+x.fdiv r).fdiv 2,hg.next hx0 hlt⟩,aA ⟨rfl,rfl,rfl,rfl,rfl,trivial⟩ ⟨rfl,rfl,rfl,rfl,trivial⟩ rfl,by show((r+x.fdiv r).fdiv 2).toNat<r.toNat;omega⟩
theorem HH {x:Int}(hx:Sz 19999999 x):Ok Tryz.prog 342 [dI x] [dI (bO x),.c (.i .i64 (if x<0 then 7 else 0))]:=by
 have h20:(2:Int)≠0:=by decide
 have hl:=gi hx
 have hs2:Sz 20000000 (2:Int):=cX (by omega) (by omega) (by omega)
 refine ex Tryz.func342 52 [.cell 2 36,.tmp 3] rfl<|ae<|ag<|ae<|ae<|ag ?_
 refine aS rfl (fun hc1=>?_) (fun hc1=>?_)
 ·have hn:x<0:=by simpa using hc1
  refine ae<|ag<|ar (az (us:=([.b false]++[.s 0 []])) I5 H3 rfl rfl rfl) ?_
  refine a9 ?_
  rw[uW hn,if_pos hn,xX]
  exact ah (aQ dJ rfl (ak aa))
 ·have hn:0≤x:=by have:=hc1;simp at this;omega
  refine aB<|ae<|ae<|ag ?_
  refine aS rfl (fun hc2=>?_) (fun hc2=>?_)
  ·have hz:x=0:=by have:=hc2;simp[dV] at this;omega
   refine ae<|ag<|ar (az (us:=([.b false]++[.s 0 []])) I5 H3 rfl rfl rfl) ?_
   refine a9 ?_
   rw[hz,Dz,xX,if_neg (by omega)]
   exact ah (aQ dJ rfl (ak aa))
  ·have hx0:0<x:=by have:=hc2;simp[dV] at this;omega
   obtain⟨k,hk⟩: ∃k:Nat,((dg x.natAbs).length+1)/2=k:=⟨_,rfl⟩
   have hpk:=cH k
   have hpc:cL (pw k)=cL (pw k):=rfl
   refine aB<|ae<|ag ?_
   refine ar (bZ ((((dg x.natAbs).length:Int))+1) (bm (by omega) (by omega)) rfl) ?_
   refine ar (jI (r:=(k:Int)) rfl rfl (by omega) (by rw[tJ (by omega),show(((dg x.natAbs).length:Int)+1)/2=(k:Int) from by omega];exact ii (by omega) (by omega)) rfl) ?_
   refine DL.mk<|pD (kg (n:=k) xm rfl rfl (by omega) (by omega) rfl) rfl<|eQ ?_
   refine ar (wS xm rfl rfl) ?_
   refine DL.mk<|WD (wq xm rfl rfl rfl (by omega) rfl)<|eQ ?_
   refine ar (az (us:=([.b false]++[cL (pw k)])) I5 H3 rfl rfl rfl) ?_
   refine ae<|ag<|ac rfl (pF (by omega) (by omega))<|aP<|bF (ι:={r:Int // NInv 19999999 x r}) (fun i=>⟨52,[(1,.p 1 0),(2,.p 2 0),(3,.v (.c (.i .i64 0))),(4,.p 4 0),(5,.p 5 0)],[(1,36,cI x),(2,36,([.b false]++[.s 0 []])),(4,36,cI i.1),(5,36,cI 2)]⟩) (fun i=>i.1.toNat) ⟨pw k,NInv.start hx0 hx hk (by omega)⟩ (aA ⟨rfl,rfl,rfl,rfl,rfl,trivial⟩ ⟨rfl,rfl,by rw[ZJ (by have:=cH k;omega)];rfl,rfl,trivial⟩ rfl) ?_
   rintro⟨r,hg⟩
   replace hg:NInv 19999999 x r:=hg
   have hsr:=hg.sz
   have hr0:=hg.r0
   have hrn:r≠0:=by omega
   obtain⟨hsq,hsum,hsn⟩:=hg.sum hx hx0
   have a1:Sz 20000000 r:=hsr.m_
   have a2:Sz 90000000 (x.fdiv r):=hsq.m_
   have a3:Sz 20000000 x:=hx.m_
   have a4:Sz 90000000 r:=hsr.m_
   have a5:Sz 100000000 r:=hsr.m_
   have a6:Sz 100000000 ((r+x.fdiv r).fdiv 2):=hsn.m_
   dsimp only
   refine aP<|ae<|ag ?_
   refine ac rfl (kY (by assumption) (by assumption) (by assumption))<|ae<|fb 14 [9,10,999999] ?_
   refine aC rfl (AQ (by assumption) (by assumption)) ?_
   refine aC rfl (kY (by assumption) (by assumption) (by assumption)) ?_
   refine DQ.mk<|fp (dL dJ rfl) rfl rfl rfl rfl<|dc ?_
   refine DQ.mk<|fp (dL dJ rfl) rfl rfl rfl rfl<|dc ?_
   refine ae<|ae<|ag ?_
   refine ac rfl (Lb (by assumption) (by assumption)) ?_
   refine aS rfl (fun hc3=>?_) (fun hc3=>?_)
   ·have hst:=FA hc3
    refine ae<|ag ?_
    refine a9 ?_
    rw[hg.done hx0 hst,if_neg (by omega)]
    exact ah (aQ dJ rfl (ak aa))
   ·have hlt:=E3 hc3
    refine aB<|ag ?_
    exact⟨⟨(r+x.fdiv r).fdiv 2,hg.next hx0 hlt⟩,aA ⟨rfl,rfl,rfl,rfl,rfl,trivial⟩ ⟨rfl,rfl,rfl,rfl,trivial⟩ rfl,by show((r+x.fdiv r).fdiv 2).toNat<r.toNat;omega⟩
theorem Fv:Ok Tryz.prog 276 [] [dI 1]:=by
 refine bW Tryz.func276 rfl<|ac rfl (iy (by omega) (by omega)) ?_
 exact ah (aQ dJ rfl aa)
theorem Gz:Ok Tryz.prog 279 [.c (.i .i64 m)] [.c (.b false)]:=by
 refine bW Tryz.func279 rfl ?_
 exact⟨.inr rfl,by simpa using(ak aa)⟩
theorem Mg:Ok Tryz.prog 164 [.c (.i .i64 m),.c (.i .i64 n)] [.c (.i .i64 (d5 m n))]:=by
 refine bW Tryz.func164 rfl<|ac rfl (Gz)<|ac rfl (Gz)<|qg rfl<|qg rfl ?_
 refine df rfl (fun hc1=>?_) (fun hc1=>?_)
 ·refine ah ?_
  rw[et (by simpa using hc1)]
  exact ak aa
 ·refine df rfl (fun hc2=>?_) (fun hc2=>?_)
  ·refine ah ?_
   rw[eM (by simpa using hc2)]
   exact ak aa
  ·refine ah ?_
   rw[jE (by have:=hc1;have h2:=hc2;simp at this h2;omega)]
   exact ak aa
theorem gJ:Ok Tryz.prog 68 [dR x] [.c (.i .i64 (aw x 0))]:=by
 refine bW Tryz.func68 rfl ?_
 refine ac rfl (Bv)<|ah ?_
 rw[←yj]
 exact ak aa
theorem cn:Ok Tryz.prog 68 [dR x] [.c (.i .i64 (aw x 0))]:=gJ
theorem Ll:Ok Tryz.prog 162 [dI n] [dR (n:Rat)]:=by
 refine bW Tryz.func162 rfl<|cz 3 [] ?_
 refine aC rfl (Fv) ?_
 refine aq (az (us:=cQ n 1) qj qe rfl rfl rfl) ?_
 refine ah ?_
 rw[Ir]
 exact aQ aX rfl aa
theorem fm (h0: -9223372036854775808≤n) (h1:n≤9223372036854775807):Ok Tryz.prog 70 [.c (.i .i64 n)] [dR (n:Rat)]:=by
 refine bW Tryz.func70 rfl<|ac rfl (iy (by omega) (by omega))<|ac rfl (Ll) ?_
 exact ah (aQ aX rfl aa)
theorem fX (h0: -9223372036854775808≤n) (h1:n≤9223372036854775807):Ok Tryz.prog 70 [.c (.i .i64 n)] [dR (n:Rat)]:=fm h0 h1
theorem sX {x y:Int}(hx:Sz 100000000 x) (hy:Sz 100000000 y) (h0:y≠0):Ok Tryz.prog 293 [dI x,dI y] [dI (x.fdiv y)]:=by
 refine bW Tryz.func293 rfl<|ac rfl (mO (dT hx) (dT hy) (by assumption)) ?_
 exact ah (aQ dJ rfl aa)
theorem ny {x y:Int}(hx:Sz 19980000 x) (hy:Sz 19980000 y) (h0:y≠0):Ok Tryz.prog 207 [dI x,dI y] [dR (Rat.divInt x y)]:=by
 have hg:=Fx (n:=x) h0
 have hg2:=Fx (n:= -x) (d:= -y) (by omega)
 have hgs:=Sz.gcd (x:=x) hy h0
 have hgs2:=Sz.gcd (x:= -x) hy.neg (by omega)
 refine bW Tryz.func207 rfl<|ac rfl (Bv) ?_
 refine df rfl (fun hc1=>?_) (fun hc1=>?_)
 ·have hn:=W4 hc1
  refine cz 4 [] ?_
  refine aC rfl (yi (dT hx)) ?_
  refine aC rfl (yi (dT hy)) ?_
  refine ac rfl (Lj (dT (Sz.neg hx)) (dT (Sz.neg hy)))<|cz 4 [] ?_
  refine aC rfl (Fv) ?_
  refine aC rfl (oR) ?_
  refine df rfl (fun hc2=>?_) (fun hc2=>?_)
  ·refine cz 6 [] ?_
   refine aC rfl (sX (dT (Sz.neg hx)) (Og) (by first|assumption|exact neg_ne (by assumption)|exact io (by assumption) (by assumption))) ?_
   refine aC rfl (sX (dT (Sz.neg hy)) (Og) (by first|assumption|exact neg_ne (by assumption)|exact io (by assumption) (by assumption))) ?_
   refine ar (az (us:=cQ ((-x).fdiv ((Int.gcd (-x) (-y):Int))) ((-y).fdiv ((Int.gcd (-x) (-y):Int)))) qj qe rfl rfl rfl) ?_
   refine ah ?_
   rw[IG,Cg (by omega)]
   exact aQ aX rfl aa
  ·refine ar (az (us:=cQ (-x) (-y)) qj qe rfl rfl rfl) ?_
   refine ah ?_
   rw[IG,AP (by omega) (YJ hc2)]
   exact aQ aX rfl aa
 ·have hn:=XF hc1
  refine ac rfl (Lj (dT hx) (dT hy))<|cz 4 [] ?_
  refine aC rfl (Fv) ?_
  refine aC rfl (oR) ?_
  refine df rfl (fun hc3=>?_) (fun hc3=>?_)
  ·refine cz 6 [] ?_
   refine aC rfl (sX (dT hx) (Og) (by first|assumption|exact neg_ne (by assumption)|exact io (by assumption) (by assumption))) ?_
   refine aC rfl (sX (dT hy) (Og) (by first|assumption|exact neg_ne (by assumption)|exact io (by assumption) (by assumption))) ?_
   refine ar (az (us:=cQ (x.fdiv (Int.gcd x y:Int)) (y.fdiv (Int.gcd x y:Int))) qj qe rfl rfl rfl) ?_
   refine ah ?_
   rw[Cg (by omega)]
   exact aQ aX rfl aa
  ·refine ar (az (us:=cQ x y) qj qe rfl rfl rfl) ?_
   refine ah ?_
   rw[AP (by omega) (YJ hc3)]
   exact aQ aX rfl aa
theorem vw {x y:Int}(hx:Sz 19980000 x) (hy:Sz 19980000 y) (h0:y≠0):Ok Tryz.prog 313 [dI x,dI y] [dR (Rat.divInt x y),.c (.i .i64 0)]:=by
 refine bW Tryz.func313 rfl<|ac rfl (Bv) ?_
 refine df rfl (fun hc1=>?_) (fun hc1=>?_)
 ·exact absurd (Sx hc1) h0
 ·refine ac rfl (ny (dT hx) (dT hy) (by first|assumption|exact neg_ne (by assumption)|exact io (by assumption) (by assumption))) ?_
  exact ah (aQ aX rfl (ak aa))
theorem dD (hx:Rz 6000000 x):Ok Tryz.prog 72 [dR x] [dR (-x)]:=by
 refine bW Tryz.func72 rfl<|cz 6 [] ?_
 refine aC rfl (yi (dT (er hx))) ?_
 refine aq (az (us:=cQ (-x.num) (x.den:Int)) qj qe rfl rfl rfl) ?_
 refine ah ?_
 rw[N1 (Rat.neg_num x) (congrArg Int.ofNat (Rat.neg_den x))]
 exact aQ aX rfl aa
theorem EI (hx:Rz 300 x):Ok Tryz.prog 72 [dR x] [dR (-x)]:=dD (hx.mono (by decide))
theorem iG (hx:Rz 6000000 x) (hy:Rz 6000000 y):Ok Tryz.prog 206 [dR x,dR y] [dR (x+y)]:=by
 have hn:=io (jp x) (jp y)
 have hn1:=jp x
 refine bW Tryz.func206 rfl<|ac rfl (oR) ?_
 refine df rfl (fun hc1=>?_) (fun hc1=>?_)
 ·refine cz 8 [] ?_
  refine aC rfl (sP (dT (er hx)) (dT (er hy))) ?_
  refine aC rfl (ny (dT (Sz.addm (er hx) (er hy))) (dT (cS hx)) (by first|assumption|exact neg_ne (by assumption)|exact io (by assumption) (by assumption))) ?_
  refine ah ?_
  rw[←ZA (Sx hc1)]
  exact aQ aX rfl aa
 ·refine cz 17 [] ?_
  refine aC rfl (fS (dT (er hx)) (dT (cS hy))) ?_
  refine aC rfl (fS (dT (er hy)) (dT (cS hx))) ?_
  refine aC rfl (sP (dT (dh (er hx) (cS hy))) (dT (dh (er hy) (cS hx)))) ?_
  refine aC rfl (fS (dT (cS hx)) (dT (cS hy))) ?_
  refine aC rfl (ny (dT (Sz.addm (dh (er hx) (cS hy)) (dh (er hy) (cS hx)))) (dT (dh (cS hx) (cS hy))) (by first|assumption|exact neg_ne (by assumption)|exact io (by assumption) (by assumption))) ?_
  refine ah ?_
  rw[←PT]
  exact aQ aX rfl aa
theorem RW (hx:Rz 300 x) (hy:Rz 300 y):Ok Tryz.prog 206 [dR x,dR y] [dR (x+y)]:=iG (hx.mono (by decide)) (hy.mono (by decide))
theorem ei (hx:Rz 6000000 x) (hy:Rz 6000000 y):Ok Tryz.prog 208 [dR x,dR y] [dR (x-y)]:=by
 refine bW Tryz.func208 rfl<|cz 4 [] ?_
 refine aC rfl (dD (aE hy)) ?_
 refine aC rfl (iG (aE hx) (aE (lj hy)))<|ah ?_
 rw[Rat.sub_eq_add_neg]
 exact aQ aX rfl aa
theorem Rh (hx:Rz 300 x) (hy:Rz 300 y):Ok Tryz.prog 208 [dR x,dR y] [dR (x-y)]:=ei (hx.mono (by decide)) (hy.mono (by decide))
theorem cB (hx:Rz 6000000 x) (hy:Rz 6000000 y):Ok Tryz.prog 233 [dR x,dR y] [dR (x*y)]:=by
 have hn:=io (jp x) (jp y)
 refine bW Tryz.func233 rfl<|cz 11 [] ?_
 refine aC rfl (fS (dT (er hx)) (dT (er hy))) ?_
 refine aC rfl (fS (dT (cS hx)) (dT (cS hy))) ?_
 refine aC rfl (ny (dT (dh (er hx) (er hy))) (dT (dh (cS hx) (cS hy))) (by first|assumption|exact neg_ne (by assumption)|exact io (by assumption) (by assumption))) ?_
 refine ah ?_
 rw[←Tq]
 exact aQ aX rfl aa
theorem RH (hx:Rz 300 x) (hy:Rz 300 y):Ok Tryz.prog 233 [dR x,dR y] [dR (x*y)]:=cB (hx.mono (by decide)) (hy.mono (by decide))
theorem o7 (hx:Rz 6000000 x) (hy:Rz 6000000 y) (h0:y≠0):Ok Tryz.prog 116 [dR x,dR y] [dR (x/y),.c (.i .i64 0)]:=by
 have hn:=io (jp x) (Ox h0)
 refine bW Tryz.func116 rfl<|ac rfl (cn) ?_
 refine df rfl (fun hc1=>?_) (fun hc1=>?_)
 ·exact absurd (Eb hc1) h0
 ·refine cz 11 [] ?_
  refine aC rfl (fS (dT (er hx)) (dT (cS hy))) ?_
  refine aC rfl (fS (dT (cS hx)) (dT (er hy))) ?_
  refine aC rfl (ny (dT (dh (er hx) (cS hy))) (dT (dh (cS hx) (er hy))) (by first|assumption|exact neg_ne (by assumption)|exact io (by assumption) (by assumption))) ?_
  refine ah ?_
  rw[←R5]
  exact aQ aX rfl (ak aa)
theorem JW (hx:Rz 300 x) (hy:Rz 300 y) (h0:y≠0):Ok Tryz.prog 116 [dR x,dR y] [dR (x/y),.c (.i .i64 0)]:=o7 (hx.mono (by decide)) (hy.mono (by decide)) h0
theorem kQ (hx:Rz 6000000 x) (hy:Rz 6000000 y):Ok Tryz.prog 71 [dR x,dR y] [.c (.i .i64 (aw x y))]:=by
 refine bW Tryz.func71 rfl<|cz 6 [] ?_
 refine aC rfl (cn) ?_
 refine aC rfl (cn) ?_
 refine aC rfl (Mg) ?_
 refine df rfl (fun hc1=>?_) (fun hc1=>?_)
 ·refine ah ?_
  rw[←I4 hc1]
  exact ak aa
 ·refine cz 12 [] ?_
  refine aC rfl (fS (dT (er hx)) (dT (cS hy))) ?_
  refine aC rfl (fS (dT (er hy)) (dT (cS hx))) ?_
  refine aC rfl (oR)<|ah ?_
  rw[Gi (x:=x) (y:=y)]
  exact ak aa
theorem oJ (hx:Rz 300 x) (hy:Rz 300 y):Ok Tryz.prog 71 [dR x,dR y] [.c (.i .i64 (aw x y))]:=kQ (hx.mono (by decide)) (hy.mono (by decide))
theorem wF (hx:Rz 6000000 x):Ok Tryz.prog 323 [dR x] [dI (x.num.fdiv (x.den:Int))]:=by
 have hn1:=jp x
 refine bW Tryz.func323 rfl<|ac rfl (mO (dT (er hx)) (dT (cS hx)) (by assumption)) ?_
 exact ah (aQ dJ rfl aa)
theorem Dp {x:Int}(hx:Sz 6000000 x):Ok Tryz.prog 364 [dI x] [dI (bO x),.c (.b (Cy x))]:=by
 have hs:=Sz.isq hx
 refine bW Tryz.func364 rfl<|ac rfl (BZ (dT hx))<|cz 13 [2,999999] ?_
 refine AG (bq rfl) (fun c1 hb1=>?_)
 cases c1
 ·refine DQ.mk<|iM (dL dJ rfl) rfl rfl rfl rfl<|dc ?_
  refine ah ?_
  rw[KQ (e7 hb1)]
  exact aQ dJ rfl (ak aa)
 ·refine aC rfl (fS (dT (Sz.isq hx)) (dT (Sz.isq hx))) ?_
  refine aC rfl (oR) ?_
  refine DQ.mk<|K1 (dL dJ rfl) rfl rfl (by kernel_rfl) rfl<|dc ?_
  refine ah ?_
  rw[JE]
  exact aQ dJ rfl (ak aa)
theorem CT (hx:Rz 6000000 x):Ok Tryz.prog 319 [dR x] [dQ (if iC x then bO x.num else 0) (if iC x then bO (x.den:Int) else 0),.c (.b (iC x))]:=by
 refine bW Tryz.func319 rfl<|ac rfl (Dp (dT (er hx))) ?_
 refine df rfl (fun hc1=>?_) (fun hc1=>?_)
 ·refine ac rfl (Dp (dT (cS hx))) ?_
  refine df rfl (fun hc2=>?_) (fun hc2=>?_)
  ·refine ar (az (us:=cQ (bO x.num) (bO (x.den:Int))) qj qe rfl rfl rfl) ?_
   refine ah ?_
   rw[UB hc1 hc2,if_pos rfl,if_pos rfl]
   exact aQ aX rfl (ak aa)
  ·refine ar (az (us:=(([.b false]++[.s 0 []])++([.b false]++[.s 0 []]))) qj qe rfl rfl rfl) ?_
   refine ah ?_
   rw[NV hc2,if_neg (by decide),if_neg (by decide),AL]
   exact aQ aX rfl (ak aa)
 ·refine ar (az (us:=(([.b false]++[.s 0 []])++([.b false]++[.s 0 []]))) qj qe rfl rfl rfl) ?_
  refine ah ?_
  rw[PA hc1,if_neg (by decide),if_neg (by decide),AL]
  exact aQ aX rfl (ak aa)
theorem Gd:Ok Tryz.prog 67 [] [dI 1]:=by
 refine bW Tryz.func67 rfl<|ac rfl (pF (by omega) (by omega)) ?_
 exact ah (aQ dJ rfl aa)
theorem iA:Ok Tryz.prog 79 [dR x] [.c (.i .i64 (aw x 0))]:=by
 refine bW Tryz.func79 rfl ?_
 refine ac rfl (yJ)<|ah ?_
 rw[←yj]
 exact ak aa
theorem di:Ok Tryz.prog 79 [dR x] [.c (.i .i64 (aw x 0))]:=iA
theorem dH (h0: -9223372036854775808≤n) (h1:n≤9223372036854775807):Ok Tryz.prog 18 [.c (.i .i64 n)] [dR (n:Rat)]:=by
 refine bW Tryz.func18 rfl<|ac rfl (pF (by omega) (by omega))<|ac rfl (Gd)<|ar (az (us:=cQ n 1) qj qe rfl rfl rfl) ?_
 refine ah ?_
 rw[Ir]
 exact aQ aX rfl aa
theorem cA (h0: -9223372036854775808≤n) (h1:n≤9223372036854775807):Ok Tryz.prog 18 [.c (.i .i64 n)] [dR (n:Rat)]:=dH h0 h1
theorem qw {x y:Int}(hx:Sz 19980000 x) (hy:Sz 19980000 y) (h0:y≠0):Ok Tryz.prog 101 [dI x,dI y] [dR (Rat.divInt x y)]:=by
 have hg:=Fx (n:=x) h0
 have hg2:=Fx (n:= -x) (d:= -y) (by omega)
 have hgs:=(Sz.gcd (x:=x) hy h0).mono (l:=20000000) (by decide)
 have hgs2:=(Sz.gcd (x:= -x) hy.neg (by omega)).mono (l:=20000000) (by decide)
 refine bW Tryz.func101 rfl<|ac rfl (yJ) ?_
 refine df rfl (fun hc1=>?_) (fun hc1=>?_)
 ·have hn:=W4 hc1
  refine cz 4 [] ?_
  refine aC rfl (xT (dT hx)) ?_
  refine aC rfl (xT (dT hy)) ?_
  refine ac rfl (D8 (dT (Sz.neg hx)) (dT (Sz.neg hy))) ?_
  refine ac rfl (kY (dT (Sz.neg hx)) (Og) (by assumption)) ?_
  refine ac rfl (kY (dT (Sz.neg hy)) (Og) (by assumption)) ?_
  refine ar (az (us:=cQ ((-x).fdiv ((Int.gcd (-x) (-y):Int))) ((-y).fdiv ((Int.gcd (-x) (-y):Int)))) qj qe rfl rfl rfl) ?_
  refine ah ?_
  rw[IG,Cg (by omega)]
  exact aQ aX rfl aa
 ·have hn:=XF hc1
  refine ac rfl (D8 (dT hx) (dT hy))<|ac rfl (kY (dT hx) (Og) (by assumption))<|ac rfl (kY (dT hy) (Og) (by assumption))<|ar (az (us:=cQ (x.fdiv (Int.gcd x y:Int)) (y.fdiv (Int.gcd x y:Int))) qj qe rfl rfl rfl) ?_
  refine ah ?_
  rw[Cg (by omega)]
  exact aQ aX rfl aa
theorem L1 {x y:Int}(hx:Sz 19980000 x) (hy:Sz 19980000 y) (h0:y≠0):Ok Tryz.prog 290 [dI x,dI y] [dR (Rat.divInt x y),.c (.i .i64 0)]:=by
 refine bW Tryz.func290 rfl<|ac rfl (yJ) ?_
 refine df rfl (fun hc1=>?_) (fun hc1=>?_)
 ·exact absurd (Sx hc1) h0
 ·refine ac rfl (qw (dT hx) (dT hy) (by first|assumption|exact neg_ne (by assumption)|exact io (by assumption) (by assumption))) ?_
  exact ah (aQ aX rfl (ak aa))
theorem Mz (h0: -9223372036854775808≤n) (h1:n≤9223372036854775807) (h2: -9223372036854775808≤d) (h3:d≤9223372036854775807) (hd:d≠0):Ok Tryz.prog 30 [.c (.i .i64 n),.c (.i .i64 d)] [dR (Rat.divInt n d)]:=by
 have z1:Sz 19980000 n:=cX (by decide) h0 h1
 have z2:Sz 19980000 d:=cX (by decide) h2 h3
 refine bW Tryz.func30 rfl ?_
 refine df rfl (fun hc1=>?_) (fun hc1=>?_)
 ·exact absurd (by simpa using hc1) hd
 ·refine ac rfl (pF (by omega) (by omega))<|ac rfl (pF (by omega) (by omega)) ?_
  refine ac rfl (qw (Og) (Og) (by first|assumption|exact neg_ne (by assumption)|exact io (by assumption) (by assumption))) ?_
  exact ah (aQ aX rfl aa)
theorem Pv (h0: -9223372036854775808≤n) (h1:n≤9223372036854775807) (h2: -9223372036854775808≤d) (h3:d≤9223372036854775807) (hd:d≠0):Ok Tryz.prog 30 [.c (.i .i64 n),.c (.i .i64 d)] [dR (Rat.divInt n d)]:=Mz h0 h1 h2 h3 hd
theorem gU (hx:Rz 6000000 x):Ok Tryz.prog 93 [dR x] [dR (-x)]:=by
 refine bW Tryz.func93 rfl<|cz 6 [] ?_
 refine aC rfl (xT (dT (er hx))) ?_
 refine aq (az (us:=cQ (-x.num) (x.den:Int)) qj qe rfl rfl rfl) ?_
 refine ah ?_
 rw[N1 (Rat.neg_num x) (congrArg Int.ofNat (Rat.neg_den x))]
 exact aQ aX rfl aa
theorem cK (hx:Rz 6000000 x) (hy:Rz 6000000 y):Ok Tryz.prog 113 [dR x,dR y] [dR (x+y)]:=by
 have hn:=io (jp x) (jp y)
 refine bW Tryz.func113 rfl<|ac rfl (nh (dT (er hx)) (dT (cS hy)))<|ac rfl (nh (dT (er hy)) (dT (cS hx)))<|cz 9 [] ?_
 refine aC rfl (AQ (dT (dh (er hx) (cS hy))) (dT (dh (er hy) (cS hx)))) ?_
 refine aC rfl (nh (dT (cS hx)) (dT (cS hy))) ?_
 refine aC rfl (qw (dT (Sz.addm (dh (er hx) (cS hy)) (dh (er hy) (cS hx)))) (dT (dh (cS hx) (cS hy))) (by first|assumption|exact neg_ne (by assumption)|exact io (by assumption) (by assumption))) ?_
 refine ah ?_
 rw[←PT]
 exact aQ aX rfl aa
theorem eo (hx:Rz 6000000 x) (hy:Rz 6000000 y):Ok Tryz.prog 95 [dR x,dR y] [dR (x-y)]:=by
 refine bW Tryz.func95 rfl<|cz 4 [] ?_
 refine aC rfl (gU (aE hy)) ?_
 refine aC rfl (cK (aE hx) (aE (lj hy)))<|ah ?_
 rw[Rat.sub_eq_add_neg]
 exact aQ aX rfl aa
theorem SC (hx:Rz 300 x) (hy:Rz 300 y):Ok Tryz.prog 95 [dR x,dR y] [dR (x-y)]:=eo (hx.mono (by decide)) (hy.mono (by decide))
theorem cm (hx:Rz 6000000 x) (hy:Rz 6000000 y):Ok Tryz.prog 96 [dR x,dR y] [dR (x*y)]:=by
 have hn:=io (jp x) (jp y)
 refine bW Tryz.func96 rfl<|cz 11 [] ?_
 refine aC rfl (nh (dT (er hx)) (dT (er hy))) ?_
 refine aC rfl (nh (dT (cS hx)) (dT (cS hy))) ?_
 refine aC rfl (qw (dT (dh (er hx) (er hy))) (dT (dh (cS hx) (cS hy))) (by first|assumption|exact neg_ne (by assumption)|exact io (by assumption) (by assumption))) ?_
 refine ah ?_
 rw[←Tq]
 exact aQ aX rfl aa
theorem KR (hx:Rz 300 x) (hy:Rz 300 y):Ok Tryz.prog 96 [dR x,dR y] [dR (x*y)]:=cm (hx.mono (by decide)) (hy.mono (by decide))
theorem pR (hx:Rz 6000000 x) (hy:Rz 6000000 y) (h0:y≠0):Ok Tryz.prog 205 [dR x,dR y] [dR (x/y),.c (.i .i64 0)]:=by
 have hn:=io (jp x) (Ox h0)
 refine bW Tryz.func205 rfl<|cz 13 [] ?_
 refine aC rfl (nh (dT (er hx)) (dT (cS hy))) ?_
 refine aC rfl (nh (dT (cS hx)) (dT (er hy))) ?_
 refine aC rfl (L1 (dT (dh (er hx) (cS hy))) (dT (dh (cS hx) (er hy))) (by first|assumption|exact neg_ne (by assumption)|exact io (by assumption) (by assumption))) ?_
 refine ah ?_
 rw[←R5]
 exact aQ aX rfl (ak aa)
theorem pE (hx:Rz 6000000 x) (hy:Rz 6000000 y):Ok Tryz.prog 32 [dR x,dR y] [.c (.i .i64 (aw x y))]:=by
 refine bW Tryz.func32 rfl<|cz 12 [] ?_
 refine aC rfl (nh (dT (er hx)) (dT (cS hy))) ?_
 refine aC rfl (nh (dT (er hy)) (dT (cS hx))) ?_
 refine aC rfl (Lb (dT (dh (er hx) (cS hy))) (dT (dh (er hy) (cS hx))))<|ah ?_
 rw[Gi (x:=x) (y:=y)]
 exact ak aa
theorem EA (hx:Rz 300 x) (hy:Rz 300 y):Ok Tryz.prog 32 [dR x,dR y] [.c (.i .i64 (aw x y))]:=pE (hx.mono (by decide)) (hy.mono (by decide))
theorem A6 (hx:Rz 6000000 x):Ok Tryz.prog 371 [dR x] [dI (x.num.fdiv (x.den:Int))]:=by
 have hn1:=jp x
 refine bW Tryz.func371 rfl<|ac rfl (kY (dT (er hx)) (dT (cS hx)) (by assumption)) ?_
 exact ah (aQ dJ rfl aa)
theorem DX {x:Int}(hx:Sz 6000000 x):Ok Tryz.prog 273 [dI x] [dI (bO x),.c (.b (Cy x))]:=by
 have hs:=Sz.isq hx
 refine bW Tryz.func273 rfl<|ac rfl (HH (dT hx))<|cz 12 [2,999999] ?_
 refine AG (bq rfl) (fun c1 hb1=>?_)
 cases c1
 ·refine DQ.mk<|iM (dL dJ rfl) rfl rfl rfl rfl<|dc ?_
  refine ah ?_
  rw[KQ (e7 hb1)]
  exact aQ dJ rfl (ak aa)
 ·refine aC rfl (nh (dT (Sz.isq hx)) (dT (Sz.isq hx))) ?_
  refine aC rfl (ym (dT (dh (Sz.isq hx) (Sz.isq hx))) (dT hx)) ?_
  refine DQ.mk<|K1 (dL dJ rfl) rfl rfl (by kernel_rfl) rfl<|dc ?_
  refine ah ?_
  rw[show Cy x=(bO x*bO x==x) from rfl]
  exact aQ dJ rfl (ak aa)
theorem zN (hx:Rz 6000000 x):Ok Tryz.prog 151 [dR x] [dQ (if iC x then bO x.num else 0) (if iC x then bO (x.den:Int) else 0),.c (.b (iC x))]:=by
 refine bW Tryz.func151 rfl<|ac rfl (DX (dT (er hx)))<|ac rfl (DX (dT (cS hx))) ?_
 refine jC (bq rfl) (fun c1 hb1=>?_)
 cases c1
 ·refine df rfl (fun hc2=>?_) (fun hc2=>?_)
  ·refine ar (az (us:=(([.b false]++[.s 0 []])++([.b false]++[.s 0 []]))) qj qe rfl rfl rfl) ?_
   refine ah ?_
   rw[NV (by simpa using hc2),if_neg (by decide),if_neg (by decide),AL]
   exact aQ aX rfl (ak aa)
  ·refine ar (az (us:=cQ (bO x.num) (bO (x.den:Int))) qj qe rfl rfl rfl) ?_
   refine ah ?_
   rw[UB (by simpa using hb1) (by simpa using hc2),if_pos rfl,if_pos rfl]
   exact aQ aX rfl (ak aa)
 ·refine rx rfl<|ar (az (us:=(([.b false]++[.s 0 []])++([.b false]++[.s 0 []]))) qj qe rfl rfl rfl) ?_
  refine ah ?_
  rw[PA (by simpa using hb1),if_neg (by decide),if_neg (by decide),AL]
  exact aQ aX rfl (ak aa)
theorem G8 (hx:Rz 300 x):Ok Tryz.prog 151 [dR x] [dQ (if iC x then bO x.num else 0) (if iC x then bO (x.den:Int) else 0),.c (.b (iC x))]:=zN (hx.mono (by decide))
theorem Dv (hx:Rz 6000000 x) (hy:Rz 6000000 y):Ok Tryz.prog 40 [dR x,dR y] [.c (.b (decide (x=y)))]:=by
 refine bW Tryz.func40 rfl ?_
 refine ac rfl (ym (dT (er hx)) (dT (er hy))) ?_
 refine jC (bq rfl) (fun c1 hb1=>?_)
 cases c1
 ·refine ah ?_
  rw[XS hb1]
  exact ak aa
 ·refine ac rfl (ym (dT (cS hx)) (dT (cS hy)))<|ah ?_
  rw[Xw hb1]
  exact ak aa
theorem Lu {neg:Bool}{xs:List Int}(hb:Tp xs) (hn:xs.length≤10000000):Ok Tryz.prog 73 [.a (([.b neg]++[cM xs]))] [.c (.b (vI neg xs))]:=by
 refine bW Tryz.func73 rfl ?_
 refine DW.mk<|bF (ι:={k:Nat // k≤xs.length∧ ∀j,j<k→xs.getD j 0<1000000000}) (fun i=>⟨36,[(1,.p 1 0),(3,.v (.c (.i .i64 (i.1:Int))))],[(1,36,([.b neg]++[cM xs]))]⟩) (fun i=>xs.length-i.1) ⟨0,ju _,fun j hj=>by omega⟩ (aA ⟨rfl,rfl,trivial⟩ ⟨rfl,trivial⟩ rfl) ?_
 rintro⟨k,hk0,hall⟩
 replace hk0:k≤xs.length:=hk0
 replace hall: ∀j,j<k→xs.getD j 0<1000000000:=hall
 have hg:=Pr hb k
 dsimp only
 refine nZ ?_
 refine df rfl (fun hc1=>?_) (fun hc1=>?_)
 ·have hk:k<xs.length:=by simp only[decide_eq_true_eq] at hc1;omega
  refine ar (bK iV rfl rfl (by omega) (jh _) rfl rfl) ?_
  refine ar (ci fl rfl (jV (i:=k) (by omega)) rfl) ?_
  refine df rfl (fun hc2=>?_) (fun hc2=>?_)
  ·have hbad:xs.getD k 0≥1000000000:=by simpa using hc2
   refine ah ?_
   rw[WV hk hbad]
   exact ak aa
  ·have hok: ¬xs.getD k 0≥1000000000:=by simpa using hc2
   have hstep: ∀j,j<k+1→xs.getD j 0<1000000000:=fun j hj=>by
    rcases kH j k with h1|h1
    ·exact hall j h1
    ·rw[show j=k from by omega];omega
   refine ar (bZ ((k:Int)+1) (bm (by omega) (by omega)) rfl) ?_
   exact⟨⟨k+1,hk,hstep⟩,aA ⟨rfl,by rw[show((k+1:Nat):Int)=(k:Int)+1 from by omega];rfl,trivial⟩ ⟨rfl,trivial⟩ rfl,by show xs.length-(k+1)<xs.length-k;omega⟩
 ·have hk:k=xs.length:=by simp only[decide_eq_false_iff_not] at hc1;omega
  have hL:Lim xs:=IU hb (by rw[←hk];exact hall)
  refine cz 20 [] ?_
  refine aC rfl (kK hL (by omega)) ?_
  refine AG (bq rfl) (fun c3 hb3=>?_)
  cases c3
  ·refine DQ.mk<|vE (nI rfl)<|dc ?_
   refine ah ?_
   rw[IS hL,hb3,lr]
   exact ak aa
  ·refine AG (bq rfl) (fun c4 hb4=>?_)
   cases c4
   ·refine ah ?_
    rw[IS hL,hb3,hb4,Bool.false_or,fW]
    exact ak aa
   ·refine ah ?_
    rw[IS hL,hb3,hb4,Bool.true_or,fW]
    exact ak aa
def vQ (x y:Int):Bool:=decide (0<y)&&(((Int.gcd x y:Nat):Int)==1)
theorem abD {x:Int}:vI (decide (x<0)) (dg x.natAbs)=true:=by
 unfold vI
 rw[BN (bV _),show trm (dg x.natAbs)=dg x.natAbs from iZ _]
 by_cases h:x<0
 ·have:dg x.natAbs≠ []:=fun e=>by have:=dV.1 e;omega
  have:=List.length_pos_iff.2 this
  grind
 grind
theorem Rx (v:Nat):Tp (dg v):=fun x hx=>by have:=bV v x hx;omega
theorem Hq {x:Int}(hx:Sz 10000000 x):Ok Tryz.prog 73 [dI x] [.c (.b true)]:=by
 have:=Lu (neg:=decide (x<0)) (xs:=dg x.natAbs) (Rx _) (gi hx)
 rw[abD] at this;exact this
theorem acj {x y:Int}(h:vQ x y=true):cQ x y=cR (Rat.divInt x y):=by
 unfold vQ at h
 simp only[dF,decide_eq_true_eq,beq_iff_eq] at h
 have:=AP (n:=x) h.1 h.2
 unfold dR dQ at this
 injection this with this
 exact this.symm
theorem Zn (x:Rat):vQ x.num (x.den:Int)=true:=by
 unfold vQ
 simp only[dF,decide_eq_true_eq,beq_iff_eq]
 refine⟨den_pos x,?_⟩
 have:Int.gcd x.num (x.den:Int)=1:=x.reduced
 grind
theorem Qb {x y:Int}(h:vQ x y=true):(Rat.divInt x y).num=x∧((Rat.divInt x y).den:Int)=y:=by
 unfold vQ at h
 simp only[dF,decide_eq_true_eq,beq_iff_eq] at h
 obtain⟨h1,h2⟩:=h
 have h3:Int.gcd x y=1:=by omega
 rw[Rat.num_divInt,Rat.den_divInt,if_neg (by omega),Int.sign_eq_one_of_pos h1,oi,Int.gcd_comm y x,h3]
 grind
theorem YL {x y:Int}(h:(d5 y 0 !=1)=true):vQ x y=false:=by
 unfold vQ
 have h1: ¬0<y:=fun e=>by rw[eM e] at h;cases h
 grind
theorem YV {y:Int}(h:(d5 y 0 !=1)=false):y≠0:=fun e=>by rw[jE e] at h;cases h
theorem aax {x y:Int}(h:(d5 y 0 !=1)=false):vQ x y=(((Int.gcd x y:Nat):Int)==1):=by
 unfold vQ
 have h1:0<y:=by
  rcases qM y 0 with e|e|e
  ·rw[et e] at h;cases h
  ·rw[jE e] at h;cases h
  grind
 grind
end Go.Proofs.YtegpmhlfjkhjmaaGreat
namespace Go.Proofs.YtegpmhlfjkhjmaaGreat
open Go.ChangeShapes Go.WideShapes Go.ChangeAt Go.RowKit Go.Deep
theorem own:ownKnob Tryz.prog.godebug=none:=by kernel_rfl
theorem R3:laidOutB Tryz.prog=true:=by kernel_rfl
def NoB:Nat→Prop:=fun _=>False
section
variable {H:Type}{enc:TypeId×Value→H}{w:World}{base:Nat}{spare:Nat→Bool}{held:Bool}
theorem Vd {f:FuncId}{ds:List D0}{vs:Array Value}{W:World}(h:Ok Tryz.prog f ds [.c (.b true)]) (hr:RdL NoB W vs.toList ds):Calls Tryz.prog f vs W fun e W'=>e=.returned (.bool true)∧Below W.heap.size W W':=
 (h.run NoB vs W (fun _ h=>h.elim) hr).mono fun e w' ⟨v,e1,h1,h2⟩=>by
  have:=ua h1
  subst this
  exact⟨e1,h2⟩
end
end Go.Proofs.YtegpmhlfjkhjmaaGreat
namespace Go.Proofs.YtegpmhlfjkhjmaaGreat
open Go.ChangeShapes Go.WideShapes Go.ChangeAt Go.RowKit
theorem Jo:Tryz.pinned.checked.prog.funcNamed Rows.engagementAgreeRow.func=some 5:=by kernel_rfl
theorem IK:joinedFacts Tryz.pinned.checked.prog 5 Tryz.f5 Rows.engagementAgreeSpec Rows.engagementAgreeRow=true:=by kernel_rfl
end Go.Proofs.YtegpmhlfjkhjmaaGreat
namespace Go.Proofs.YtegpmhlfjkhjmaaGreat
open Go Go.RowKit
variable {ops:Array Oper}{B:BF}{hi lo m n r s t:Int}{k:IntKind}{P:Program}{p:Prop}{A C D M N a a1 a2 b b1 b2 c c1 c2 d e f v w x y:Rat}{T:TF}{U t1 t2:TypeId}
variable {ty:TypeId}{pos:String}{af:Array Edge}{g:Option (Nat×Bool)}{dst:Option Nat}
section
variable {P:Program}{ops:Array Oper}{T:TF}{B:BF}
theorem E7 {x y:Operand}
 (hx:cO T x=some (.v (.c (.i k m)))) (hy:cO T y=some (.v (.c (.i k n)))) (hg:gd ops ⟨dst,.call ⟨.builtin .max,#[x,y],#[t1,t2]⟩,ty,pos,af,g⟩ T=some true):
 Sem P ops ⟨dst,.call ⟨.builtin .max,#[x,y],#[t1,t2]⟩,ty,pos,af,g⟩ T B (.r (.v (.c (.i k (max m n))))):=
 bG hg (qo rfl) (fun V β a w hs=>by
  have e1:a.eval x=.int k m:=fO (ap hs (x:=x) (by simp[Op.operands,Call.operands]) hx)
  have e2:a.eval y=.int k n:=fO (ap hs (x:=y) (by simp[Op.operands,Call.operands]) hy)
  refine⟨.int k (max m n),?_,.i _ _⟩
  simp[execOp,resolve,invoke,builtin,Builtin.max_,Builtin.max2,e1,e2]
  split<;>omega)
theorem Ej {x y:Operand}
 (hx:cO T x=some (.v (.c (.i k m)))) (hy:cO T y=some (.v (.c (.i k n)))) (hg:gd ops ⟨dst,.call ⟨.builtin .min,#[x,y],#[t1,t2]⟩,ty,pos,af,g⟩ T=some true):
 Sem P ops ⟨dst,.call ⟨.builtin .min,#[x,y],#[t1,t2]⟩,ty,pos,af,g⟩ T B (.r (.v (.c (.i k (min m n))))):=
 bG hg (qo rfl) (fun V β a w hs=>by
  have e1:a.eval x=.int k m:=fO (ap hs (x:=x) (by simp[Op.operands,Call.operands]) hx)
  have e2:a.eval y=.int k n:=fO (ap hs (x:=y) (by simp[Op.operands,Call.operands]) hy)
  refine⟨.int k (min m n),?_,.i _ _⟩
  simp[execOp,resolve,invoke,builtin,Builtin.min_,Builtin.min2,e1,e2]
  split<;>omega)
end
theorem da {e:TypeId}{ps:Array (Nat×Operand)}{n m by_:Nat}{zs us:List CellD}{dps:List (Nat×D0)}
 (hU:xG P U=some (e,m,by_,zs)) (hp:xf T ps.toList=some dps) (hf:yo (fun i=>some (i*m,m)) (List.replicate n zs).flatten dps=some us) (hl:us.length=n*m) (hn:n*m≤16777216) (hm:0<n*m)
 (hg:gd ops ⟨dst,.buildSlice U n ps,ty,pos,af,g⟩ T=some true):Sem P ops ⟨dst,.buildSlice U n ps,ty,pos,af,g⟩ T B (.r (.v (.c (.s n us)))):=by
 have h:=qd (B:=B) hU hp hf hn hm hg
 refine⟨qo rfl,fun V β a w hs=>?_⟩
 obtain⟨hw,hg⟩:=h V β a w hs
 refine⟨hw,hg.mono ?_⟩
 rintro v w' ⟨vs,rfl,rfl,hr⟩
 refine⟨?_,(cU _ w).alloc (cj _) _⟩
 have hkeep:=Keep.below (av:=V) ((cU w.heap.size w).alloc (cj _) (.cells vs e))
 have hr2:=hr.keep hkeep
 have hvl:vs.size=n*m:=by have:=hr.1;rw[hl] at this;simpa using this
 have hn0:0<n:=by grind
 have hm0:0<m:=by grind
 have hnm:n≤n*m:=Nat.le_mul_of_pos_right n hm0
 refine .s w.heap.size 0 n m n _ (fun j=>vs.getD j undef) hn0 (cj _) (by omega) hl (by simp) (fun h=>by have:=hs.av _ h;omega) (fun j hj=>?_) (fun j u hj=>?_)
 ·simp_all
 ·have hlt:j<n*m:=by have:=(jH.1 hj).1;omega
  refine hr2.2 j _ u ?_ hj
  have:j<vs.size:=by omega
  simp[Array.getD,this]
theorem aU {o:Oper}{b c:Bool}(h:Sem P ops o T B (.r (.v (.c (.b b))))) (e:b=c):Sem P ops o T B (.r (.v (.c (.b c)))):=by subst e;exact h
theorem fJ {a b:Int}(h0: -9223372036854775808≤a*b) (h1:a*b≤9223372036854775807):Cl .mul .i64 a b=some (a*b):=congrArg some (ii h0 h1)
section
variable {P:Program}{f:FuncId}{ds rs:List D0}{x y z u v x' y' z' u' v':Rat}
theorem lh (h:Ok P f ds [dR x]) (e:x=x'):Ok P f ds [dR x']:=by subst e;exact h
theorem zo (h:Ok P f ds [.a (cR x++cR y++cR z)]) (e1:x=x') (e2:y=y') (e3:z=z'):Ok P f ds [.a (cR x'++cR y'++cR z')]:=by subst e1 e2 e3;exact h
theorem Fk {rs:List D0}(h:Ok P f ds (.a (cR x++cR y++cR z++cR u++cR v)::rs)) (e1:x=x') (e2:y=y') (e3:z=z') (e4:u=u') (e5:v=v'):Ok P f ds (.a (cR x'++cR y'++cR z'++cR u'++cR v')::rs):=by grind
theorem eG {b c:Bool}(h:Ok P f ds [.c (.b b)]) (e:b=c):Ok P f ds [.c (.b c)]:=by subst e;exact h
theorem bX {b c:Int}(h:Ok P f ds [.c (.i .i64 b)]) (e:b=c):Ok P f ds [.c (.i .i64 c)]:=by subst e;exact h
end
theorem ye:aw x y≤0↔x≤y:=by
 unfold aw
 split
 ·rename_i h;exact⟨fun _=>by grind,fun _=>by omega⟩
 ·split
  ·rename_i h;exact⟨fun h2=>by omega,fun h2=>by grind⟩
  ·rename_i h1 h2;exact⟨fun _=>by grind,fun _=>by omega⟩
theorem Az:aw x y≥0↔y≤x:=by
 unfold aw
 split
 ·rename_i h;exact⟨fun _=>by omega,fun _=>by grind⟩
 ·split
  ·rename_i h;exact⟨fun h2=>by grind,fun h2=>by omega⟩
  ·rename_i h1 h2;exact⟨fun _=>by grind,fun _=>by omega⟩
theorem Rz.num (h0: -9223372036854775808≤n) (h1:n≤9223372036854775807):Rz 3 (n:Rat):=dm (cX (by decide) h0 h1) (by decide)
def zc (b c:Rat):Rat:=if b=0 then 0 else c
def Md (b1 b2 c:Rat):Rat:=if b1=0∧b2=0 then 0 else c
theorem EM (h:b=0):zc b c=0:=by unfold zc;rw[if_pos h]
theorem nF (h:b≠0):zc b c=c:=by unfold zc;rw[if_neg h]
theorem KG (h:b1=0) (h2:b2=0):Md b1 b2 c=0:=by unfold Md;rw[if_pos ⟨h,h2⟩]
theorem P7 (h:b1≠0):Md b1 b2 c=c:=by unfold Md;rw[if_neg (fun e=>h e.1)]
theorem Iw (h:b2≠0):Md b1 b2 c=c:=by unfold Md;rw[if_neg (fun e=>h e.2)]
theorem qk (h:(aw x 0==0)=true):x=0:=Eb h
theorem nW (h:(aw x 0==0)=false):x≠0:=fun e=>by rw[lQ.2 e] at h;cases h
theorem Hg (h:(aw x y !=0)=true):x≠y:=fun e=>by rw[lQ.2 e] at h;cases h
theorem JK:(0:Rat)=((0:Int):Rat):=rfl
def Um (b1 c1 b2 c2:Rat):Prop:=b1≠0∧b2≠0∧c1≠c2
def cc (b1 c1 c2:Rat):Rat:=if b1=0 then c2 else c1
theorem Fn (h:b1=0):cc b1 c1 c2=c2:=by unfold cc;rw[if_pos h]
theorem zU (h:b1≠0):cc b1 c1 c2=c1:=by unfold cc;rw[if_neg h]
def tZ (b1 b2 c:Rat):Bool:=if b1=0∧b2=0 then decide (c=0) else decide (0<c)&& !iC c
theorem YR:(aw x 0==0)=decide (x=0):=by rw[Bool.eq_iff_iff,beq_iff_eq,decide_eq_true_eq,lQ]
theorem Ud:decide (aw x 0>0)=decide (0<x):=by rw[Bool.eq_iff_iff,decide_eq_true_eq,decide_eq_true_eq];exact nH
theorem YW (h:(aw b1 0==0)=true) (h2:(aw b2 0==0)=true):tZ b1 b2 c=(aw c 0==0):=by
 unfold tZ;rw[if_pos ⟨qk h,qk h2⟩,YR]
theorem Uz (h:(aw b1 0==0)=false):tZ b1 b2 c=(decide (aw c 0>0)&& !iC c):=by
 unfold tZ;rw[if_neg (fun e=>nW h e.1),Ud]
theorem Uf (h:(aw b2 0==0)=false):tZ b1 b2 c=(decide (aw c 0>0)&& !iC c):=by
 unfold tZ;rw[if_neg (fun e=>nW h e.2),Ud]
theorem Sc {x y:Int}(hx:Sz 5000000 x) (hy:Sz 5000000 y):Ok Tryz.prog 21 [dQ x y] [.c (.b (vQ x y))]:=by
 have hx1:Sz 10000000 x:=hx.m_
 have hy1:Sz 10000000 y:=hy.m_
 refine bW Tryz.func21 rfl ?_
 refine ac rfl (Hq (by assumption)) ?_
 refine ar (bq rfl) ?_
 refine ac rfl (Hq (by assumption)) ?_
 refine ar (bq rfl) ?_
 refine ac rfl (yJ) ?_
 refine df rfl (fun hc1=>?_) (fun hc1=>?_)
 ·refine ah ?_
  rw[YL hc1]
  exact ak aa
 ·have hgc:Sz 100000000 ((Int.gcd x y:Nat):Int):=(Sz.gcd (x:=x) hy (YV hc1)).m_
  refine ac rfl (D8 (dT hx) (dT hy))<|ac rfl (Gd)<|ac rfl (ym (Og) (dT (cX (k:=3) (by decide) (by decide) (by decide))))<|ah ?_
  rw[aax hc1]
  exact ak aa
theorem jk (hx:Rz 5000000 x):Ok Tryz.prog 21 [dR x] [.c (.b true)]:=by
 have:=Sc hx.n hx.d
 rw[Zn] at this;exact this
theorem rT:Ok Tryz.prog 317 [] [dR 0]:=by
 refine bW Tryz.func317 rfl<|ac rfl (fm (by omega) (by omega)) ?_
 refine ah ?_
 rw[JK]
 exact aQ aX rfl aa
theorem BU:Ok Tryz.prog 230 [dR a,dR b,dR c] [.a ((cR a++cR b++cR (zc b c)))]:=by
 refine bW Tryz.func230 rfl<|ac rfl (gJ) ?_
 refine df rfl (fun hc1=>?_) (fun hc1=>?_)
 ·refine ac rfl (rT) ?_
  refine ar (az (us:=(cR a++cR b++cR 0)) kT js rfl rfl rfl) ?_
  refine ah ?_
  rw[EM (qk hc1)]
  exact aQ cG rfl aa
 ·refine ar (az (us:=(cR a++cR b++cR c)) kT js rfl rfl rfl) ?_
  refine ah ?_
  rw[nF (nW hc1)]
  exact aQ cG rfl aa
theorem p6:Ok Tryz.prog 127 [.a ((cR a1++cR b1++cR a2++cR b2++cR c))] [.a ((cR a1++cR b1++cR (zc b1 c)))]:=by
 refine bW Tryz.func127 rfl<|ac rfl (BU) ?_
 exact ah (aQ cG rfl aa)
theorem Ih:Ok Tryz.prog 140 [.a ((cR a1++cR b1++cR a2++cR b2++cR c))] [.a ((cR a2++cR b2++cR (zc b2 c)))]:=by
 refine bW Tryz.func140 rfl<|ac rfl (BU) ?_
 exact ah (aQ cG rfl aa)
theorem tu:Ok Tryz.prog 235 [.a ((cR a1++cR b1++cR a2++cR b2++cR c))] [.a ((cR a1++cR b1++cR a2++cR b2++cR (Md b1 b2 c)))]:=by
 refine bW Tryz.func235 rfl<|ac rfl (gJ) ?_
 refine jC (bq rfl) (fun c1 hb1=>?_)
 cases c1
 ·refine qg rfl<|ah ?_
  rw[P7 (nW hb1)]
  exact aQ bE rfl aa
 ·refine ac rfl (gJ) ?_
  refine df rfl (fun hc2=>?_) (fun hc2=>?_)
  ·refine ac rfl (rT) ?_
   refine nM (aY (us:=(cR a1++cR b1++cR a2++cR b2++cR 0)) aX rfl rfl rfl rfl (dO rfl) rfl rfl) ?_
   refine ah ?_
   rw[KG (qk hb1) (qk hc2)]
   exact aQ bE rfl aa
  ·refine ah ?_
   rw[Iw (nW hc2)]
   exact aQ bE rfl aa
theorem S6:Ok Tryz.prog 300 [.a ((cR v++cR w))] [.a ((cR v++cR 0++cR w++cR 0++cR 0))]:=by
 refine ex Tryz.func300 11 [.cell 2 47] rfl<|ae<|ag<|ae<|nu 8 rfl rfl<|cE 1<|bh (ed (cR v) aX rfl)<|bh (cb rfl (rT))<|cE 1<|bh (ed (cR w) aX rfl)<|bh (cb rfl (rT))<|bh (cb rfl (rT))<|bh (az (us:=(cR v++cR 0++cR w++cR 0++cR 0)) EY z8 rfl rfl rfl) ?_
 refine mT<|dN<|fL<|a9 ?_
 exact ah (aQ bE rfl aa)
theorem vO:Ok Tryz.prog 77 [] [dR 0]:=by
 refine bW Tryz.func77 rfl<|ac rfl (dH (by omega) (by omega)) ?_
 refine ah ?_
 rw[JK]
 exact aQ aX rfl aa
theorem CZ:Ok Tryz.prog 286 [] [dR 0]:=by
 refine bW Tryz.func286 rfl<|ac rfl (dH (by omega) (by omega)) ?_
 refine ah ?_
 rw[JK]
 exact aQ aX rfl aa
theorem eF:Ok Tryz.prog 190 [dR a] [.a ((cR a++cR 0++cR 0))]:=by
 refine bW Tryz.func190 rfl<|cz 4 [] ?_
 refine aC rfl (CZ) ?_
 refine aC rfl (CZ) ?_
 refine aq (az (us:=(cR a++cR 0++cR 0)) kT js rfl rfl rfl) ?_
 exact ah (aQ cG rfl aa)
theorem BT:Ok Tryz.prog 272 [dR a,dR b,dR c] [.a ((cR a++cR b++cR (zc b c)))]:=by
 refine bW Tryz.func272 rfl<|ac rfl (iA) ?_
 refine df rfl (fun hc1=>?_) (fun hc1=>?_)
 ·refine ac rfl (eF) ?_
  have e:=qk hc1
  subst e
  refine ah ?_
  rw[EM rfl]
  exact aQ cG rfl aa
 ·refine ar (az (us:=(cR a++cR b++cR c)) kT js rfl rfl rfl) ?_
  refine ah ?_
  rw[nF (nW hc1)]
  exact aQ cG rfl aa
theorem n5:Ok Tryz.prog 149 [.a ((cR a1++cR b1++cR a2++cR b2++cR c))] [.a ((cR a1++cR b1++cR (zc b1 c)))]:=by
 refine bW Tryz.func149 rfl<|ac rfl (BT) ?_
 exact ah (aQ cG rfl aa)
theorem Fd:Ok Tryz.prog 150 [.a ((cR a1++cR b1++cR a2++cR b2++cR c))] [.a ((cR a2++cR b2++cR (zc b2 c)))]:=by
 refine bW Tryz.func150 rfl<|ac rfl (BT) ?_
 exact ah (aQ cG rfl aa)
theorem jP:Ok Tryz.prog 340 [dR a1,dR b1,dR a2,dR b2,dR c] [.a ((cR a1++cR b1++cR a2++cR b2++cR (Md b1 b2 c)))]:=by
 refine ex Tryz.func340 26 [.cell 10 47] rfl<|ae<|ag<|ae<|ae<|ag ?_
 refine ac rfl (iA) ?_
 refine jC (bq rfl) (fun c1 hb1=>?_)
 cases c1
 ·refine bn rfl<|aB<|ae<|bz<|bQ 5<|aW (az (us:=(cR a1++cR b1++cR a2++cR b2++cR c)) EY z8 rfl rfl rfl) ?_
  refine fL<|a9 ?_
  rw[P7 (nW hb1)]
  exact ah (aQ bE rfl aa)
 ·refine ac rfl (iA) ?_
  refine aS rfl (fun hc2=>?_) (fun hc2=>?_)
  ·refine ag<|ac rfl (vO) ?_
   refine ae<|bz<|bQ 5 ?_
   refine aW (az (us:=(cR a1++cR b1++cR a2++cR b2++cR 0)) EY z8 rfl rfl rfl) ?_
   refine fL<|a9 ?_
   rw[KG (qk hb1) (qk hc2)]
   exact ah (aQ bE rfl aa)
  ·refine aB<|ae<|bz<|bQ 5<|aW (az (us:=(cR a1++cR b1++cR a2++cR b2++cR c)) EY z8 rfl rfl rfl) ?_
   refine fL<|a9 ?_
   rw[Iw (nW hc2)]
   exact ah (aQ bE rfl aa)
theorem AY:Ok Tryz.prog 23 [.a ((cR v++cR w))] [.a ((cR v++cR 0++cR w++cR 0++cR 0))]:=by
 refine ex Tryz.func23 11 [.cell 2 47] rfl<|ae<|ag<|ae<|nu 8 rfl rfl<|cE 1<|bh (ed (cR v) aX rfl)<|bh (cb rfl (vO))<|cE 1<|bh (ed (cR w) aX rfl)<|bh (cb rfl (vO))<|bh (cb rfl (vO))<|bh (az (us:=(cR v++cR 0++cR w++cR 0++cR 0)) EY z8 rfl rfl rfl) ?_
 refine mT<|dN<|fL<|a9 ?_
 exact ah (aQ bE rfl aa)
def w8 (x:Int):Bool:=decide (-9223372036854775808≤x)&&decide (x≤9223372036854775807)
theorem W5 {x:Int}(h:x< -9223372036854775808):w8 x=false:=by unfold w8;rw[decide_eq_false (by omega)];rfl
theorem VZ {x:Int}(h:9223372036854775807<x):w8 x=false:=by unfold w8;rw[decide_eq_false (p:=x≤9223372036854775807) (by omega),lU]
theorem Oc {x:Int}(h: ¬x< -9223372036854775808) (h2: ¬9223372036854775807<x):w8 x=true:=by unfold w8;rw[decide_eq_true (by omega),decide_eq_true (by omega)];rfl
theorem S9 {x:Int}:w8 x=true↔ -9223372036854775808≤x∧x≤9223372036854775807:=by unfold w8;simp
theorem XB (h0:1≤r) (h1:r≤9223372036854775808):IntKind.u64.wrap (0-r)=18446744073709551616-r:=by unfold IntKind.wrap;simp[IntKind.bits,IntKind.signed];omega
theorem Vk (h0:1≤r) (h1:r≤9223372036854775808):IntKind.i64.wrap (18446744073709551616-r)= -r:=by unfold IntKind.wrap;simp[IntKind.bits,IntKind.signed];omega
theorem wv [Decidable p] (h:decide p=true):p:=by simpa using h
theorem oh [Decidable p] (h:decide p=false): ¬p:=by simpa using h
theorem eZ {b:Bool}(h:(!b)=false):b=true:=by simpa using h
theorem jw {b:Bool}(h:(!b)=true):b=false:=by simpa using h
def wm (lo hi:Int):Bool:=decide (-2305843009213693952≤lo)&&decide (hi≤2305843009213693952)
theorem aau (h:lo< -2305843009213693952):wm lo hi=false:=by unfold wm;rw[decide_eq_false (by omega)];rfl
theorem Zm (h:hi>2305843009213693952):wm lo hi=false:=by unfold wm;rw[decide_eq_false (p:=hi≤2305843009213693952) (by omega),lU]
theorem TZ (h: ¬lo< -2305843009213693952) (h2: ¬hi>2305843009213693952):wm lo hi=true:=by unfold wm;rw[decide_eq_true (by omega),decide_eq_true (by omega)];rfl
def ji (a:Rat):Int:=(a*((65536:Int):Rat)).num.fdiv ((a*((65536:Int):Rat)).den:Int)
def iN (a:Rat):Int:= -((-(a*((65536:Int):Rat))).num.fdiv ((-(a*((65536:Int):Rat))).den:Int))
def iO (a:Rat):Bool:=w8 (ji a)&&(w8 (iN a)&&wm (ji a) (iN a))
theorem zp {x:Int}(hx:Sz 100000000 x):Ok Tryz.prog 322 [dI x] [.c (.i .i64 (if w8 x then x else 0)),.c (.b (w8 x))]:=by
 refine ex Tryz.func322 39 [.tmp 2,.tmp 3] rfl<|ae<|ag<|ae<|ae<|fb 10 [] ?_
 refine aC rfl (iy (by omega) (by omega))<|aC rfl (oR) ?_
 refine AG (bq rfl) (fun c1 hb1=>?_)
 cases c1
 ·refine aC rfl (iy (by omega) (by omega))<|aC rfl (oR) ?_
  refine aS rfl (fun hc2=>?_) (fun hc2=>?_)
  ·refine ae<|ag<|a9 ?_
   rw[VZ (abl hc2),if_neg (by decide)]
   exact ah (ak (ak aa))
  ·have hlo:=XF hb1
   have hhi:=abj hc2
   have hln:=gi hx
   refine aB<|ae<|ag<|ae<|ae<|ag ?_
   refine ar (bZ ((((dg x.natAbs).length:Int))-1) (bI (by(first|omega|(simp;omega))) (by(first|omega|(simp;omega)))) rfl) ?_
   refine aP<|bF (ι:={t:Nat×Int // ShInv (dg x.natAbs) t.1 t.2}) (fun i=>⟨39,[(1,.p 1 0),(4,.v (.c (.i .u64 i.1.2))),(5,.v (.c (.i .i64 ((i.1.1:Int)-1))))],[(1,36,cI x)]⟩) (fun i=>i.1.1) ⟨((dg x.natAbs).length,0),⟨Nat.le_refl _,pP 0,by rw[pS];simp⟩⟩ (aA ⟨rfl,rfl,rfl,trivial⟩ ⟨rfl,trivial⟩ rfl) ?_
   rintro⟨⟨j,r⟩,hI⟩
   replace hI:ShInv (dg x.natAbs) j r:=hI
   have g5:=hI.le
   have g3:=hI.r0
   have g4:=hI.bound (bV _)
   rw[ce] at g4
   dsimp only
   refine ae<|ae<|ag ?_
   refine aS rfl (fun hc3=>?_) (fun hc3=>?_)
   ·obtain⟨q,rfl⟩: ∃q,j=q+1:=⟨j-1,by have:=wv hc3;omega⟩
    have hS:=hI.step (bV _)
    have hB:=hS.bound (bV _)
    have g1:=db (bV x.natAbs) q
    rw[ce] at hB
    refine oC (σ':=⟨39,[(1,.p 1 0),(4,.v (.c (.i .u64 r))),(5,.v (.c (.i .i64 (q:Int))))],[(1,36,cI x)]⟩) (aA ⟨rfl,rfl,by rw[show(q:Int)=((q+1:Nat):Int)-1 from by omega];rfl,trivial⟩ ⟨rfl,trivial⟩ rfl) ?_
    refine aB<|ae<|aP<|ag ?_
    refine ar (bZ (r*1000000000) (gO (by(first|omega|(simp;omega))) (by(first|omega|(simp;omega)))) rfl) ?_
    refine ar (bK iV rfl rfl (by(first|omega|(simp;omega))) (jh _) rfl rfl) ?_
    refine ar (ci fl rfl (jV (i:=q) (by(first|omega|(simp;omega)))) rfl) ?_
    refine ar (bv (r:=(dg x.natAbs).getD q 0) jn fA rfl (gZ (by(first|omega|(simp;omega))) (by(first|omega|(simp;omega)))) rfl) ?_
    refine ar (bZ ((r*1000000000)+((dg x.natAbs).getD q 0)) (fG (by(first|omega|(simp;omega))) (by(first|omega|(simp;omega)))) rfl) ?_
    refine ag ?_
    refine ar (bZ ((q:Int)-1) (bI (by(first|omega|(simp;omega))) (by(first|omega|(simp;omega)))) rfl) ?_
    exact⟨⟨(q,r*1000000000+(dg x.natAbs).getD q 0),hS⟩,aA ⟨rfl,rfl,rfl,trivial⟩ ⟨rfl,trivial⟩ rfl,by show q<q+1;omega⟩
   ·have hz:j=0:=by have:=oh hc3;omega
    have hfin:(x.natAbs:Int)=r:=by subst hz;have:=hI.v;rw[ce] at this;simp[val,tD] at this;omega
    refine b7<|ae<|ae<|ag ?_
    refine aS rfl (fun hc4=>?_) (fun hc4=>?_)
    ·have hn:=wv hc4
     refine ag<|ar (fi (r:=18446744073709551616-r) rfl (XB (by omega) (by omega)) rfl) ?_
     refine ae<|ag<|ar (bv (r:=x) fA tW rfl (by rw[Vk (by omega) (by omega)];omega) rfl) ?_
     refine a9 ?_
     rw[Oc hlo hhi,if_pos rfl]
     exact ah (ak (ak aa))
    ·have hn:=oh hc4
     refine aB<|ae<|ag<|ar (bv (r:=x) fA tW rfl (by rw[←hfin];rw[ii (by omega) (by omega)];omega) rfl) ?_
     refine a9 ?_
     rw[Oc hlo hhi,if_pos rfl]
     exact ah (ak (ak aa))
 ·refine dG rfl<|ae<|ag<|a9 ?_
  rw[W5 (W4 hb1),if_neg (by decide)]
  exact ah (ak (ak aa))
theorem sF {x y:Int}:Ok Tryz.prog 324 [.c (.i .i64 x),.c (.i .i64 y)] [.a (([.i .i64 (if wm x y then x else 0)]++[.i .i64 (if wm x y then y else 0)])),.c (.b (wm x y))]:=by
 refine bW Tryz.func324 rfl ?_
 refine jC (bq rfl) (fun c1 hb1=>?_)
 cases c1
 ·refine df rfl (fun hc2=>?_) (fun hc2=>?_)
  ·refine ar (az (us:=([.i .i64 0]++[.i .i64 0])) qx pt rfl rfl rfl) ?_
   refine ah ?_
   rw[Zm (wv hc2),if_neg (by decide),if_neg (by decide)]
   exact aQ jz rfl (ak aa)
  ·refine ar (az (us:=([.i .i64 x]++[.i .i64 y])) qx pt rfl rfl rfl) ?_
   refine ah ?_
   rw[TZ (oh hb1) (oh hc2),if_pos rfl,if_pos rfl]
   exact aQ jz rfl (ak aa)
 ·refine rx rfl<|ar (az (us:=([.i .i64 0]++[.i .i64 0])) qx pt rfl rfl rfl) ?_
  refine ah ?_
  rw[aau (wv hb1),if_neg (by decide),if_neg (by decide)]
  exact aQ jz rfl (ak aa)
def rf (s t c:Int):Int:=if t=0∨s=t then s else if s=0 then t else s*c
def bd (a b m:Rat):Int:=rf (aw a 0) (aw b 0*aw m 0) (aw (a*a) (b*b*m))
def Dr (A B C D M N:Rat):Rat:=A*A+B*B*M-N*(C*C+D*D*M)
def wy (A B C D N:Rat):Rat:=A*B-N*(C*D)
def eE (A B C D M N:Rat):Int:=if M<0∨N<0 then 0 else rf (bd A B M) (bd C D M*aw N 0) (bd (Dr A B C D M N) (wy A B C D N+wy A B C D N) M)
theorem yn {c:Int}(h:(s==0)=true):rf s t c=t:=by
 unfold rf
 grind
theorem yG {c:Int}(h:(t==0)=true):rf s t c=s:=by
 have h:t=0:=by grind
 unfold rf;rw[if_pos (.inl h)]
theorem yw {c:Int}(h:(s==t)=true):rf s t c=s:=by
 have h:s=t:=by grind
 unfold rf;rw[if_pos (.inr h)]
theorem yc {c:Int}(h1:(s==0)=false) (h2:(t==0)=false) (h3:(s==t)=false):rf s t c=s*c:=by
 have h1:s≠0:=by grind
 have h2:t≠0:=by grind
 have h3:s≠t:=by grind
 unfold rf;rw[if_neg (by omega),if_neg h1]
theorem dA (x y:Rat): -1≤aw x y∧aw x y≤1:=by
 unfold aw
 split
 ·omega
 ·split<;>omega
theorem jr (h: -1≤s∧s≤1) (h': -1≤t∧t≤1): -1≤s*t∧s*t≤1:=by
 have hs:s= -1∨s=0∨s=1:=by omega
 grind
theorem Kz {c:Int}(h: -1≤s∧s≤1) (h': -1≤t∧t≤1) (h2: -1≤c∧c≤1): -1≤rf s t c∧rf s t c≤1:=by
 unfold rf
 split
 ·exact h
 ·split
  ·grind
  ·exact jr h h2
theorem gC (a b m:Rat): -1≤bd a b m∧bd a b m≤1:=Kz (dA _ _) (jr (dA _ _) (dA _ _)) (dA _ _)
theorem Fr (h:decide (aw x 0<0)=true):x<0:=uL.1 (by simpa using h)
theorem Bp (h:decide (aw x 0<0)=false): ¬x<0:=fun e=>by have:=uL.2 e;simp at h;omega
theorem Ft {B:Rat}(h:M<0∨N<0):eE A B C D M N=0:=by unfold eE;rw[if_pos h]
theorem vK {B:Rat}(h: ¬M<0) (h': ¬N<0):eE A B C D M N=rf (bd A B M) (bd C D M*aw N 0) (bd (Dr A B C D M N) (wy A B C D N+wy A B C D N) M):=by
 unfold eE;rw[if_neg (fun e=>e.elim h h')]
theorem oZ {m:Rat}(ha:Rz 2000000 a) (hb:Rz 2000000 b) (hm:Rz 2000000 m):Ok Tryz.prog 254 [dR a,dR b,dR m] [.c (.i .i64 (bd a b m))]:=by
 have ka:Rz 6000000 a:=ha.m_
 have kb:Rz 6000000 b:=hb.m_
 have hp:=jr (dA b 0) (dA m 0)
 have hp2:=jr (dA a 0) (dA (a*a) (b*b*m))
 refine bW Tryz.func254 rfl<|cz 9 [] ?_
 refine aC rfl (cn) ?_
 refine aC rfl (cn) ?_
 refine aC rfl (cn) ?_
 refine aq (bZ ((aw b 0)*(aw m 0)) (fJ (by omega) (by omega)) rfl) ?_
 refine jC (bq rfl) (fun c1 hb1=>?_)
 cases c1
 ·refine df rfl (fun hc2=>?_) (fun hc2=>?_)
  ·refine ah ?_
   unfold bd
   rw[yw hc2]
   exact ak aa
  ·refine df rfl (fun hc3=>?_) (fun hc3=>?_)
   ·refine ah ?_
    unfold bd
    rw[yn hc3]
    exact ak aa
   ·refine cz 12 [] ?_
    refine aC rfl (cB (aE ha) (aE ha)) ?_
    refine aC rfl (cB (aE hb) (aE hb)) ?_
    refine aC rfl (cB (aE (aF hb hb)) (aE hm)) ?_
    refine aC rfl (kQ (aE (aF ha ha)) (aE (aF (aF hb hb) hm))) ?_
    refine aq (bZ ((aw a 0)*(aw (a*a) ((b*b)*m))) (fJ (by omega) (by omega)) rfl)<|ah ?_
    unfold bd
    rw[yc hc3 hb1 hc2]
    exact ak aa
 ·refine rx rfl<|ah ?_
  unfold bd
  rw[yG hb1]
  exact ak aa
theorem uG {m:Rat}(ha:Rz 2000000 a) (hb:Rz 2000000 b) (hm:Rz 2000000 m):Ok Tryz.prog 182 [dR a,dR b,dR m] [.c (.i .i64 (bd a b m))]:=by
 have ka:Rz 6000000 a:=ha.m_
 have kb:Rz 6000000 b:=hb.m_
 have hp:=jr (dA b 0) (dA m 0)
 have hp2:=jr (dA a 0) (dA (a*a) (b*b*m))
 refine bW Tryz.func182 rfl<|cz 9 [] ?_
 refine aC rfl (di) ?_
 refine aC rfl (di) ?_
 refine aC rfl (di) ?_
 refine aq (bZ ((aw b 0)*(aw m 0)) (fJ (by omega) (by omega)) rfl) ?_
 refine jC (bq rfl) (fun c1 hb1=>?_)
 cases c1
 ·refine jC (bq rfl) (fun c2 hb2=>?_)
  cases c2
  ·refine df rfl (fun hc3=>?_) (fun hc3=>?_)
   ·refine df rfl (fun hc4=>?_) (fun hc4=>?_)
    ·exact absurd hc4 (by rw[hb1];decide)
    ·refine ah ?_
     unfold bd
     rw[yw hc3]
     exact ak aa
   ·refine cz 12 [] ?_
    refine aC rfl (cm (aE ha) (aE ha)) ?_
    refine aC rfl (cm (aE hb) (aE hb)) ?_
    refine aC rfl (cm (aE (aF hb hb)) (aE hm)) ?_
    refine aC rfl (pE (aE (aF ha ha)) (aE (aF (aF hb hb) hm))) ?_
    refine aq (bZ ((aw a 0)*(aw (a*a) ((b*b)*m))) (fJ (by omega) (by omega)) rfl)<|ah ?_
    unfold bd
    rw[yc hb1 hb2 hc3]
    exact ak aa
  ·refine rx rfl ?_
   refine df rfl (fun hc5=>?_) (fun hc5=>?_)
   ·exact absurd hc5 (by rw[hb1];decide)
   ·refine ah ?_
    unfold bd
    rw[yG hb2]
    exact ak aa
 ·refine ar (bq rfl)<|rx rfl ?_
  refine df rfl (fun hc6=>?_) (fun hc6=>?_)
  ·refine ah ?_
   unfold bd
   rw[yn hb1]
   exact ak aa
  ·exact absurd hb1 (by rw[hc6];decide)
theorem zM {B:Rat}(hA:Rz 160000 A) (hB:Rz 160000 B) (hC:Rz 160000 C) (hD:Rz 160000 D) (hM:Rz 160000 M) (hN:Rz 160000 N):Ok Tryz.prog 157 [.a ((cR A++cR B++cR C++cR D++cR M++cR N))] [.c (.i .i64 (eE A B C D M N))]:=by
 have z1:=jr (gC C D M) (dA N 0)
 have z2:=jr (gC A B M) (gC (A*A+B*B*M-N*(C*C+D*D*M)) ((A*B-N*(C*D))+(A*B-N*(C*D))) M)
 refine bW Tryz.func157 rfl ?_
 refine ac rfl (di) ?_
 refine jC (bq rfl) (fun c1 hb1=>?_)
 cases c1
 ·have n1:=Bp hb1
  refine ac rfl (di) ?_
  refine df rfl (fun hc2=>?_) (fun hc2=>?_)
  ·refine ah ?_
   rw[Ft (.inr (Fr hc2))]
   exact ak aa
  ·have n2:=Bp hc2
   refine cz 20 [] ?_
   refine aC rfl (uG (aE hA) (aE hB) (aE hM)) ?_
   refine aC rfl (uG (aE hC) (aE hD) (aE hM)) ?_
   refine aC rfl (di) ?_
   refine aq (bZ ((bd C D M)*(aw N 0)) (fJ (by omega) (by omega)) rfl) ?_
   refine jC (bq rfl) (fun c3 hb3=>?_)
   cases c3
   ·refine jC (bq rfl) (fun c4 hb4=>?_)
    cases c4
    ·refine df rfl (fun hc5=>?_) (fun hc5=>?_)
     ·refine df rfl (fun hc6=>?_) (fun hc6=>?_)
      ·exact absurd hc6 (by rw[hb3];decide)
      ·refine ah ?_
       rw[vK n1 n2,yw hc5]
       exact ak aa
     ·refine cz 18 [] ?_
      refine aC rfl (cm (aE hC) (aE hC)) ?_
      refine aC rfl (cm (aE hD) (aE hD)) ?_
      refine aC rfl (cm (aE (aF hD hD)) (aE hM)) ?_
      refine aC rfl (cK (aE (aF hC hC)) (aE (aF (aF hD hD) hM))) ?_
      refine aC rfl (cm (aE hN) (aE (ig (aF hC hC) (aF (aF hD hD) hM))))<|cz 17 [] ?_
      refine aC rfl (cm (aE hA) (aE hA)) ?_
      refine aC rfl (cm (aE hB) (aE hB)) ?_
      refine aC rfl (cm (aE (aF hB hB)) (aE hM)) ?_
      refine aC rfl (cK (aE (aF hA hA)) (aE (aF (aF hB hB) hM))) ?_
      refine aC rfl (eo (aE (ig (aF hA hA) (aF (aF hB hB) hM))) (aE (aF hN (ig (aF hC hC) (aF (aF hD hD) hM)))))<|cz 15 [] ?_
      refine aC rfl (cm (aE hA) (aE hB)) ?_
      refine aC rfl (cm (aE hC) (aE hD))<|aC rfl (cm (aE hN) (aE (aF hC hD)))<|aC rfl (eo (aE (aF hA hB)) (aE (aF hN (aF hC hD))))<|cz 10 [] ?_
      refine aC rfl (cK (aE (cT (aF hA hB) (aF hN (aF hC hD)))) (aE (cT (aF hA hB) (aF hN (aF hC hD))))) ?_
      refine aC rfl (uG (aE (cT (ig (aF hA hA) (aF (aF hB hB) hM)) (aF hN (ig (aF hC hC) (aF (aF hD hD) hM))))) (aE (ig (cT (aF hA hB) (aF hN (aF hC hD))) (cT (aF hA hB) (aF hN (aF hC hD))))) (aE hM)) ?_
      refine aq (bZ ((bd A B M)*(bd (((A*A)+((B*B)*M))-(N*((C*C)+((D*D)*M)))) (((A*B)-(N*(C*D)))+((A*B)-(N*(C*D)))) M)) (fJ (by omega) (by omega)) rfl)<|ah ?_
      rw[vK n1 n2,yc hb3 hb4 hc5]
      exact ak aa
    ·refine rx rfl ?_
     refine df rfl (fun hc7=>?_) (fun hc7=>?_)
     ·exact absurd hc7 (by rw[hb3];decide)
     ·refine ah ?_
      rw[vK n1 n2,yG hb4]
      exact ak aa
   ·refine ar (bq rfl)<|rx rfl ?_
    refine df rfl (fun hc8=>?_) (fun hc8=>?_)
    ·refine ah ?_
     rw[vK n1 n2,yn hb3]
     exact ak aa
    ·exact absurd hb3 (by rw[hc8];decide)
 ·refine rx rfl<|ah ?_
  rw[Ft (.inl (Fr hb1))]
  exact ak aa
theorem OQ (ha:Rz 6000000 a) (_hb:Rz 6000000 b) (hd:Rz 6000000 d) (he:Rz 6000000 e):Ok Tryz.prog 181 [.a ((cR a++cR b++cR c)),.a ((cR d++cR e++cR f))] [.a ((cR (a-d)++cR b++cR (-e)++cR 0++cR c++cR f))]:=by
 refine ex Tryz.func181 21 [.cell 4 186] rfl<|ae<|ag<|ae<|nu 16 rfl rfl<|cE 1<|bh (ed (cR a) aX rfl)<|cE 1<|bh (ed (cR d) aX rfl)<|bh (cb rfl (eo (aE ha) (aE hd)))<|cE 1<|bh (ed (cR b) aX rfl)<|cE 1<|bh (ed (cR e) aX rfl) ?_
 refine bh (cb rfl (gU (aE he)))<|bh (cb rfl ((show Ok Tryz.prog 18 [.c (.i .i64 0)] [dR 0] from cA (by omega) (by omega))))<|cE 1<|bh (ed (cR c) aX rfl)<|cE 1<|bh (ed (cR f) aX rfl)<|bh (az (us:=(cR (a-d)++cR b++cR (-e)++cR 0++cR c++cR f)) Df Ao rfl rfl rfl) ?_
 refine mT<|dN<|fL<|a9 ?_
 exact ah (aQ Dt rfl aa)
theorem vk (ha:Rz 60000 a) (hb:Rz 60000 b) (hc:Rz 60000 c) (hd:Rz 60000 d) (he:Rz 60000 e) (hf:Rz 60000 f):Ok Tryz.prog 83 [.a ((cR a++cR b++cR c)),.a ((cR d++cR e++cR f))] [.c (.i .i64 (eE (a-d) b (-e) 0 c f))]:=by
 have ka:Rz 6000000 a:=ha.m_
 have ma:Rz 160000 a:=ha.m_
 have kb:Rz 6000000 b:=hb.m_
 have mb:Rz 160000 b:=hb.m_
 have kc:Rz 6000000 c:=hc.m_
 have mc:Rz 160000 c:=hc.m_
 have kd:Rz 6000000 d:=hd.m_
 have md:Rz 160000 d:=hd.m_
 have ke:Rz 6000000 e:=he.m_
 have me:Rz 160000 e:=he.m_
 have kf:Rz 6000000 f:=hf.m_
 have mf:Rz 160000 f:=hf.m_
 have m1:Rz 160000 (a-d):=(ha.sub hd).m_
 have m2:Rz 160000 (-e):=me.neg
 have m0:Rz 160000 (0:Rat):=dm (n:=0) (cX (by decide) (by decide) (by decide)) (by decide)
 refine bW Tryz.func83 rfl ?_
 refine ac rfl (OQ (by assumption) (by assumption) (by assumption) (by assumption)) ?_
 refine ac rfl (zM (by assumption) (by assumption) (by assumption) (by assumption) (by assumption) (by assumption)) ?_
 exact ah (ak aa)
theorem uJ (ha:Rz 6000000 a):Ok Tryz.prog 333 [dR a] [dR a]:=by
 refine bW Tryz.func333 rfl<|ac rfl (dD (aE ha))<|ac rfl (dD (aE (lj ha))) ?_
 have hfin:dR a=dR (-(-a)):=by rw[Rat.neg_neg]
 refine ah ?_
 rw[hfin]
 exact aQ aX rfl aa
theorem G3 (ha:Rz 6000000 a) (hb:Rz 6000000 b) (hc:Rz 6000000 c) (hd:Rz 6000000 d) (he:Rz 6000000 e) (hf:Rz 6000000 f):Ok Tryz.prog 256 [.a ((cR a++cR b++cR c)),.a ((cR d++cR e++cR f))] [.a ((cR (a-d)++cR b++cR (-e)++cR 0++cR c++cR f))]:=by
 refine ex Tryz.func256 24 [.cell 4 186] rfl<|ae<|ag<|ae<|nu 19 rfl rfl<|cE 1<|bh (ed (cR a) aX rfl)<|cE 1<|bh (ed (cR d) aX rfl)<|bh (cb rfl (ei (aE ha) (aE hd)))<|cE 1<|bh (ed (cR b) aX rfl)<|bh (cb rfl (uJ (aE hb)))<|cE 1 ?_
 refine bh (ed (cR e) aX rfl)<|bh (cb rfl (dD (aE he)))<|bh (cb rfl ((show Ok Tryz.prog 70 [.c (.i .i64 0)] [dR 0] from fX (by omega) (by omega))))<|cE 1<|bh (ed (cR c) aX rfl)<|bh (cb rfl (uJ (aE hc)))<|cE 1<|bh (ed (cR f) aX rfl)<|bh (cb rfl (uJ (aE hf)))<|bh (az (us:=(cR (a-d)++cR b++cR (-e)++cR 0++cR c++cR f)) Df Ao rfl rfl rfl) ?_
 refine mT<|dN<|fL<|a9 ?_
 exact ah (aQ Dt rfl aa)
def rB (b c:Rat):Rat:=if b=0∨c=0 then 0 else b
def rC (b c:Rat):Rat:=if b=0∨c=0 then 0 else c
theorem Tg (h:b=0∨c=0):rB b c=0:=by unfold rB;rw[if_pos h]
theorem Sp (h:b=0∨c=0):rC b c=0:=by unfold rC;rw[if_pos h]
theorem YG (h:b≠0) (h':c≠0):rB b c=b:=by unfold rB;rw[if_neg (fun e=>e.elim h h')]
theorem aaW (h:b≠0) (h':c≠0):rC b c=c:=by unfold rC;rw[if_neg (fun e=>e.elim h h')]
def s3 (a b c:Rat):Int:=if aw a 0=aw b 0∨aw b 0=0 then aw a 0 else if aw a 0=0 then aw b 0 else if 0<a*a-b*b*c then aw a 0 else aw b 0
theorem abF (h:(aw a 0==aw b 0)=true):s3 a b c=aw a 0:=by unfold s3;rw[if_pos (.inl (by simpa using h))]
theorem aav (h:(aw b 0==0)=true):s3 a b c=aw a 0:=by unfold s3;rw[if_pos (.inr (by simpa using h))]
theorem XL (h:(aw a 0==aw b 0)=false) (h2:(aw b 0==0)=false):s3 a b c=if aw a 0=0 then aw b 0 else if 0<a*a-b*b*c then aw a 0 else aw b 0:=by
 unfold s3;rw[if_neg (fun e=>e.elim (by simpa using h) (by simpa using h2))]
theorem abe (h:decide (aw x 0>0)=true):0<x:=nH.1 (by simpa using h)
theorem Z7 (h:decide (aw x 0>0)=false): ¬0<x:=fun e=>by have:=nH.2 e;simp at h;omega
theorem abB (h:(s==t)=true):s=t:=by simpa using h
theorem Yf (h:(s==t)=false):s≠t:=by simpa using h
theorem Wz (hf: ¬Um b c e f) (h1:b≠0) (h2:e≠0):(aw c f==0)=true:=by
 rw[r_eqb']
 exact fH fun h=>hf ⟨h1,h2,h⟩
where
 r_eqb' {x y:Rat}:((aw x y==0)=true)=(x=y):=by rw[beq_iff_eq];exact propext lQ
theorem xM (ha:Rz 6000000 a):Ok Tryz.prog 370 [dR a] [dR (a*a)]:=by
 refine bW Tryz.func370 rfl<|ac rfl (cm (aE ha) (aE ha)) ?_
 exact ah (aQ aX rfl aa)
theorem Iz (ha:Rz 1000000 a) (hb:Rz 1000000 b) (hc:Rz 1000000 c):Ok Tryz.prog 334 [.a ((cR a++cR b++cR c))] [dR (a*a-b*b*c)]:=by
 have ka:Rz 6000000 a:=ha.m_
 have kb:Rz 6000000 b:=hb.m_
 have kc:Rz 6000000 c:=hc.m_
 refine bW Tryz.func334 rfl<|cz 10 [] ?_
 refine aC rfl (xM (aE ha)) ?_
 refine aC rfl (xM (aE hb)) ?_
 refine aC rfl (cm (aE (aF hb hb)) (aE hc)) ?_
 refine aC rfl (eo (aE (aF ha ha)) (aE (aF (aF hb hb) hc))) ?_
 exact ah (aQ aX rfl aa)
theorem Bg (ha:Rz 1000000 a) (hb:Rz 1000000 b) (hc:Rz 1000000 c):Ok Tryz.prog 266 [.a ((cR a++cR b++cR c))] [.c (.i .i64 (s3 a b c))]:=by
 refine bW Tryz.func266 rfl<|cz 8 [] ?_
 refine aC rfl (di) ?_
 refine aC rfl (di) ?_
 refine jC (bq rfl) (fun c1 hb1=>?_)
 cases c1
 ·refine df rfl (fun hc2=>?_) (fun hc2=>?_)
  ·refine ah ?_
   rw[aav hc2]
   exact ak aa
  ·refine df rfl (fun hc3=>?_) (fun hc3=>?_)
   ·refine ah ?_
    rw[XL hb1 hc2,if_pos (abB hc3)]
    exact ak aa
   ·refine ac rfl (Iz (by assumption) (by assumption) (by assumption))<|ac rfl (di) ?_
    refine df rfl (fun hc4=>?_) (fun hc4=>?_)
    ·refine ah ?_
     rw[XL hb1 hc2,if_neg (Yf hc3),if_pos (abe hc4)]
     exact ak aa
    ·refine ah ?_
     rw[XL hb1 hc2,if_neg (Yf hc3),if_neg (Z7 hc4)]
     exact ak aa
 ·refine rx rfl<|ah ?_
  rw[abF hb1]
  exact ak aa
theorem tE:Ok Tryz.prog 191 [dR a,dR b,dR c] [.a ((cR a++cR (rB b c)++cR (rC b c)))]:=by
 refine bW Tryz.func191 rfl<|ac rfl (iA) ?_
 refine jC (bq rfl) (fun c1 hb1=>?_)
 cases c1
 ·refine ac rfl (iA) ?_
  refine df rfl (fun hc2=>?_) (fun hc2=>?_)
  ·refine ac rfl (eF) ?_
   refine ah ?_
   rw[Tg (.inr (qk hc2)),Sp (.inr (qk hc2))]
   exact aQ cG rfl aa
  ·refine ar (az (us:=(cR a++cR b++cR c)) kT js rfl rfl rfl) ?_
   refine ah ?_
   rw[YG (nW hb1) (nW hc2),aaW (nW hb1) (nW hc2)]
   exact aQ cG rfl aa
 ·refine rx rfl ?_
  refine ac rfl (eF) ?_
  refine ah ?_
  rw[Tg (.inl (qk hb1)),Sp (.inl (qk hb1))]
  exact aQ cG rfl aa
theorem yf (hc:Rz 6000000 c) (hf:Rz 6000000 f) (hb: ¬Um b c e f):Ok Tryz.prog 285 [.a ((cR a++cR b++cR c)),.a ((cR d++cR e++cR f))] [dR (cc b c f),.c (.b true)]:=by
 refine bW Tryz.func285 rfl<|ac rfl (di) ?_
 refine df rfl (fun hc1=>?_) (fun hc1=>?_)
 ·refine ah ?_
  rw[Fn (qk hc1)]
  exact aQ aX rfl (ak aa)
 ·refine cz 16 [4,999999] ?_
  refine aC rfl (di) ?_
  refine AG (bq rfl) (fun c2 hb2=>?_)
  cases c2
  ·refine aC rfl (pE (aE hc) (aE hf)) ?_
   refine DQ.mk<|iM (dL aX rfl) rfl rfl rfl rfl<|dc ?_
   refine ah ?_
   rw[zU (nW hc1),Wz hb (nW hc1) (nW hb2)]
   exact aQ aX rfl (ak aa)
  ·refine DQ.mk<|K1 (dL aX rfl) rfl rfl (by kernel_rfl) rfl<|dc ?_
   refine ah ?_
   rw[zU (nW hc1)]
   exact aQ aX rfl (ak aa)
theorem Mx (ha:Rz 1000000 a) (hb:Rz 1000000 b) (hc:Rz 1000000 c) (hd:Rz 1000000 d) (he:Rz 1000000 e) (hf:Rz 1000000 f) (hbad: ¬Um b c e f):Ok Tryz.prog 189 [.a ((cR a++cR b++cR c)),.a ((cR d++cR e++cR f))] [.a ((cR (a+d)++cR (rB (b+e) (cc b c f))++cR (rC (b+e) (cc b c f)))),.c (.i .i64 0)]:=by
 have ka:Rz 6000000 a:=ha.m_
 have kb:Rz 6000000 b:=hb.m_
 have kc:Rz 6000000 c:=hc.m_
 have kd:Rz 6000000 d:=hd.m_
 have ke:Rz 6000000 e:=he.m_
 have kf:Rz 6000000 f:=hf.m_
 refine bW Tryz.func189 rfl<|ac rfl (yf (by assumption) (by assumption) (by assumption))<|qg rfl<|cz 12 [] ?_
 refine aC rfl (cK (aE ha) (aE hd)) ?_
 refine aC rfl (cK (aE hb) (aE he)) ?_
 refine aC rfl (tE) ?_
 exact ah (aQ cG rfl (ak aa))
theorem Mj (ha:Rz 1000000 a) (hb:Rz 1000000 b) (hc:Rz 1000000 c) (hd:Rz 1000000 d) (he:Rz 1000000 e) (hf:Rz 1000000 f) (hbad: ¬Um b c e f):Ok Tryz.prog 183 [.a ((cR a++cR b++cR c)),.a ((cR d++cR e++cR f))] [.a ((cR (a*d+b*e*cc b c f)++cR (rB (a*e+b*d) (cc b c f))++cR (rC (a*e+b*d) (cc b c f)))),.c (.i .i64 0)]:=by
 have ka:Rz 6000000 a:=ha.m_
 have kb:Rz 6000000 b:=hb.m_
 have kc:Rz 6000000 c:=hc.m_
 have kd:Rz 6000000 d:=hd.m_
 have ke:Rz 6000000 e:=he.m_
 have kf:Rz 6000000 f:=hf.m_
 have hcc:Rz 1000000 (cc b c f):=by unfold cc;split<;>assumption
 have z1:Rz 6000000 (b*e):=(aF hb he).m_
 have z2:Rz 6000000 (cc b c f):=hcc.m_
 have z3:Rz 6000000 (b*e*cc b c f):=(aF (aF hb he) hcc).m_
 refine bW Tryz.func183 rfl<|ac rfl (yf (by assumption) (by assumption) (by assumption))<|qg rfl<|cz 14 [] ?_
 refine aC rfl (cm (by first|assumption|exact bY ha (by decide)) (by first|assumption|exact bY hd (by decide))) ?_
 refine aC rfl (cm (by first|assumption|exact bY hb (by decide)) (by first|assumption|exact bY he (by decide))) ?_
 refine aC rfl (cm (by first|assumption|exact bY (aF hb he) (by decide)) (by first|assumption|exact bY (by assumption) (by decide))) ?_
 refine aC rfl (cK (by first|assumption|exact bY (aF ha hd) (by decide)) (by first|assumption|exact bY (aF (aF hb he) (by assumption)) (by decide))) ?_
 refine cz 12 [] ?_
 refine aC rfl (cm (by first|assumption|exact bY ha (by decide)) (by first|assumption|exact bY he (by decide))) ?_
 refine aC rfl (cm (by first|assumption|exact bY hb (by decide)) (by first|assumption|exact bY hd (by decide))) ?_
 refine aC rfl (cK (by first|assumption|exact bY (aF ha he) (by decide)) (by first|assumption|exact bY (aF hb hd) (by decide))) ?_
 refine ac rfl (tE) ?_
 exact ah (aQ cG rfl (ak aa))
theorem EQ (ha:Rz 6000000 a) (hd:Rz 6000000 d):Ok Tryz.prog 335 [.a ((cR a++cR b++cR c)),dR d] [.a ((cR (a+d)++cR b++cR c))]:=by
 refine bW Tryz.func335 rfl<|cz 9 [] ?_
 refine aC rfl (cK (aE ha) (aE hd)) ?_
 refine aq (az (us:=(cR (a+d)++cR b++cR c)) kT js rfl rfl rfl) ?_
 exact ah (aQ cG rfl aa)
theorem BA {x y:Int}(h0: -9223372036854775808≤x) (h1:x≤9223372036854775807) (h2: -9223372036854775808≤y) (h3:y≤9223372036854775807):Ok Tryz.prog 24 [.c (.i .i64 x),.c (.i .i64 y)] [.a ((cR (((x:Int):Rat))++cR (((y:Int):Rat))))]:=by
 refine bW Tryz.func24 rfl<|ac rfl (dH (by omega) (by omega))<|ac rfl (dH (by omega) (by omega))<|ar (az (us:=(cR (((x:Int):Rat))++cR (((y:Int):Rat)))) IW G1 rfl rfl rfl) ?_
 exact ah (aQ LI rfl aa)
end Go.Proofs.YtegpmhlfjkhjmaaGreat
