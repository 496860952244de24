/-Square roots of integers,program and reference. -/
import Derived.Test.YtegpmhlfjkhjmaaGreatYqG
import Derived.Test.YtegpmhlfjkhjmaaGreatRows
import Derived.Deep.Slices
import Derived.ProofKit
import Derived.OpenShut
import Derived.Carry
namespace Go.Proofs.YtegpmhlfjkhjmaaGreat
open Go Go.RowKit
variable {m n:Int}{x y:Rat}
theorem aO:type_of% @Rz.mul:=@Rz.mul
theorem dd:type_of% @Rz.sub:=@Rz.sub
theorem cZ:type_of% @Rz.d:=@Rz.d
theorem eZ:type_of% @Rz.n:=@Rz.n
theorem dC:type_of% @Sz.mul:=@Sz.mul
theorem dU:type_of% @Rz.mono:=@Rz.mono
theorem d6:type_of% @Rz.int:=@Rz.int
theorem gD:type_of% @Rz.add:=@Rz.add
theorem oC:type_of% @Rz.neg:=@Rz.neg
theorem oK:type_of% @Bool.and_false:=@Bool.and_false
theorem CB {x:Int}(hx:Sz 99999999 x):Ok Tryz.prog 360 [dI x] [dI (bV x),.c (.i .i64 (if x<0 then 7 else 0))]:=by
 have h20:(2:Int)≠0:=by decide
 have hl:=ii hx
 have hs2:Sz 100000000 (2:Int):=dY (by omega) (by omega) (by omega)
 refine eH Tryz.func360 54 [.cell 2 36,.tmp 3] rfl<|aa<|ag<|aa<|aa<|ag ?_
 refine aI rfl (fun hc1=>?_) (fun hc1=>?_)
 ·have hn:x<0:=by simpa using hc1
  refine aa<|ag<|ar (aM (us:=([.b false]++[.s 0 []])) JH GE rfl rfl rfl) ?_
  refine aZ ?_
  rw[vY hn,if_pos hn,yc]
  exact ah (aV dT rfl (az ae))
 ·have hn:0≤x:=by have:=hc1;simp at this;omega
  refine aA<|aa<|aa<|ag ?_
  refine aI rfl (fun hc2=>?_) (fun hc2=>?_)
  ·have hz:x=0:=by have:=hc2;simp[eg] at this;omega
   refine aa<|ag<|ar (aM (us:=([.b false]++[.s 0 []])) JH GE rfl rfl rfl) ?_
   refine aZ ?_
   rw[hz,DN,yc,if_neg (by omega)]
   exact ah (aV dT rfl (az ae))
  ·have hx0:0<x:=by have:=hc2;simp[eg] at this;omega
   obtain⟨k,hk⟩: ∃k:Nat,((du x.natAbs).length+1)/2=k:=⟨_,rfl⟩
   have hpk:=cX k
   have hpc:cL (pw k)=cL (pw k):=rfl
   refine aA<|aa<|ag ?_
   refine ar (ci ((((du x.natAbs).length:Int))+1) (bk (by omega) (by omega)) rfl) ?_
   refine ar (kJ (r:=(k:Int)) rfl rfl (by omega) (by rw[pd (by omega),show(((du x.natAbs).length:Int)+1)/2=(k:Int) from by omega];exact qN (by omega) (by omega)) rfl) ?_
   refine aa<|ag ?_
   refine DL.mk<|pi (ko (n:=k) xR rfl rfl (by omega) (by omega) rfl) rfl<|dX ?_
   refine ar (xj xR rfl rfl) ?_
   refine DL.mk<|XK (w9 xR rfl rfl rfl (by omega) rfl)<|dX ?_
   refine ac rfl (ua)<|aa<|ag<|ac rfl (jh (by omega) (by omega))<|aB<|bh (ι:={r:Int // NInv 99999999 x r}) (fun i=>⟨54,[(1,.p 1 0),(2,.p 2 0),(3,.v (.c (.i .i64 0))),(5,.p 5 0),(6,.p 6 0)],[(1,36,cI x),(2,36,([.b false]++[.s 0 []])),(5,36,cI i.1),(6,36,cI 2)]⟩) (fun i=>i.1.toNat) ⟨pw k,NInv.start hx0 hx hk (by omega)⟩ (ao ⟨rfl,rfl,rfl,rfl,rfl,trivial⟩ ⟨rfl,rfl,by rw[show sg false (((pw k).natAbs:Nat):Int)=pw k from by rw[cV];have:=cX k;omega];rfl,rfl,trivial⟩ rfl) ?_
   rintro⟨r,hg⟩
   replace hg:NInv 99999999 x r:=hg
   have hsr:=hg.sz
   have hr0:=hg.r0
   have hrn:r≠0:=by omega
   obtain⟨hsq,hsum,hsn⟩:=hg.sum hx hx0
   have a1:Sz 100000000 r:=hsr.m_
   have a2:Sz 100000000 (x.fdiv r):=hsq.m_
   have a3:Sz 100000000 x:=hx.m_
   dsimp only
   refine aB<|aa<|ag ?_
   refine ac rfl (nJ (by assumption) (by assumption) (by assumption))<|aa<|dJ 14 [10,11,999999] ?_
   refine aK rfl (tP (by assumption) (by assumption)) ?_
   refine aK rfl (nJ (by assumption) (by assumption) (by assumption)) ?_
   refine DQ.mk<|iQ (fg dT rfl) rfl rfl rfl rfl<|d7 ?_
   refine DQ.mk<|iQ (fg dT rfl) rfl rfl rfl rfl<|d7 ?_
   refine aa<|aa<|ag ?_
   refine ac rfl (pI) ?_
   refine aI rfl (fun hc3=>?_) (fun hc3=>?_)
   ·have hst:=FM hc3
    refine aa<|ag ?_
    refine aZ ?_
    rw[hg.done hx0 hst,if_neg (by omega)]
    exact ah (aV dT rfl (az ae))
   ·have hlt:=Fg hc3
    refine aA<|ag ?_
    exact⟨⟨(r+x.fdiv r).fdiv 2,hg.next hx0 hlt⟩,ao ⟨rfl,rfl,rfl,rfl,rfl,trivial⟩ ⟨rfl,rfl,rfl,rfl,trivial⟩ rfl,by show((r+x.fdiv r).fdiv 2).toNat<r.toNat;omega⟩
theorem vV {x:Int}(hx:Sz 19999999 x):Ok Tryz.prog 342 [dI x] [dI (bV x),.c (.i .i64 (if x<0 then 7 else 0))]:=by
 have h20:(2:Int)≠0:=by decide
 have hl:=ii hx
 have hs2:Sz 20000000 (2:Int):=dY (by omega) (by omega) (by omega)
 refine eH Tryz.func342 52 [.cell 2 36,.tmp 3] rfl<|aa<|ag<|aa<|aa<|ag ?_
 refine aI rfl (fun hc1=>?_) (fun hc1=>?_)
 ·have hn:x<0:=by simpa using hc1
  refine aa<|ag<|ar (aM (us:=([.b false]++[.s 0 []])) JH GE rfl rfl rfl) ?_
  refine aZ ?_
  rw[vY hn,if_pos hn,yc]
  exact ah (aV dT rfl (az ae))
 ·have hn:0≤x:=by have:=hc1;simp at this;omega
  refine aA<|aa<|aa<|ag ?_
  refine aI rfl (fun hc2=>?_) (fun hc2=>?_)
  ·have hz:x=0:=by have:=hc2;simp[eg] at this;omega
   refine aa<|ag<|ar (aM (us:=([.b false]++[.s 0 []])) JH GE rfl rfl rfl) ?_
   refine aZ ?_
   rw[hz,DN,yc,if_neg (by omega)]
   exact ah (aV dT rfl (az ae))
  ·have hx0:0<x:=by have:=hc2;simp[eg] at this;omega
   obtain⟨k,hk⟩: ∃k:Nat,((du x.natAbs).length+1)/2=k:=⟨_,rfl⟩
   have hpk:=cX k
   have hpc:cL (pw k)=cL (pw k):=rfl
   refine aA<|aa<|ag ?_
   refine ar (ci ((((du x.natAbs).length:Int))+1) (bk (by omega) (by omega)) rfl) ?_
   refine ar (kJ (r:=(k:Int)) rfl rfl (by omega) (by rw[pd (by omega),show(((du x.natAbs).length:Int)+1)/2=(k:Int) from by omega];exact qN (by omega) (by omega)) rfl) ?_
   refine DL.mk<|pi (ko (n:=k) xR rfl rfl (by omega) (by omega) rfl) rfl<|dX ?_
   refine ar (xj xR rfl rfl) ?_
   refine DL.mk<|XK (w9 xR rfl rfl rfl (by omega) rfl)<|dX ?_
   refine ar (aM (us:=([.b false]++[cL (pw k)])) JH GE rfl rfl rfl) ?_
   refine aa<|ag<|ac rfl (qO (by omega) (by omega))<|aB<|bh (ι:={r:Int // NInv 19999999 x r}) (fun i=>⟨52,[(1,.p 1 0),(2,.p 2 0),(3,.v (.c (.i .i64 0))),(4,.p 4 0),(5,.p 5 0)],[(1,36,cI x),(2,36,([.b false]++[.s 0 []])),(4,36,cI i.1),(5,36,cI 2)]⟩) (fun i=>i.1.toNat) ⟨pw k,NInv.start hx0 hx hk (by omega)⟩ (ao ⟨rfl,rfl,rfl,rfl,rfl,trivial⟩ ⟨rfl,rfl,by rw[abx (by have:=cX k;omega)];rfl,rfl,trivial⟩ rfl) ?_
   rintro⟨r,hg⟩
   replace hg:NInv 19999999 x r:=hg
   have hsr:=hg.sz
   have hr0:=hg.r0
   have hrn:r≠0:=by omega
   obtain⟨hsq,hsum,hsn⟩:=hg.sum hx hx0
   have a1:Sz 20000000 r:=hsr.m_
   have a2:Sz 90000000 (x.fdiv r):=hsq.m_
   have a3:Sz 20000000 x:=hx.m_
   have a4:Sz 90000000 r:=hsr.m_
   have a5:Sz 100000000 r:=hsr.m_
   have a6:Sz 100000000 ((r+x.fdiv r).fdiv 2):=hsn.m_
   dsimp only
   refine aB<|aa<|ag ?_
   refine ac rfl (mr (by assumption) (by assumption) (by assumption))<|aa<|dJ 14 [9,10,999999] ?_
   refine aK rfl (A8 (by assumption) (by assumption)) ?_
   refine aK rfl (mr (by assumption) (by assumption) (by assumption)) ?_
   refine DQ.mk<|iQ (fg dT rfl) rfl rfl rfl rfl<|d7 ?_
   refine DQ.mk<|iQ (fg dT rfl) rfl rfl rfl rfl<|d7 ?_
   refine aa<|aa<|ag ?_
   refine ac rfl (K6 (by assumption) (by assumption)) ?_
   refine aI rfl (fun hc3=>?_) (fun hc3=>?_)
   ·have hst:=FM hc3
    refine aa<|ag ?_
    refine aZ ?_
    rw[hg.done hx0 hst,if_neg (by omega)]
    exact ah (aV dT rfl (az ae))
   ·have hlt:=Fg hc3
    refine aA<|ag ?_
    exact⟨⟨(r+x.fdiv r).fdiv 2,hg.next hx0 hlt⟩,ao ⟨rfl,rfl,rfl,rfl,rfl,trivial⟩ ⟨rfl,rfl,rfl,rfl,trivial⟩ rfl,by show((r+x.fdiv r).fdiv 2).toNat<r.toNat;omega⟩
theorem FB:Ok Tryz.prog 276 [] [dI 1]:=by
 refine ca Tryz.func276 rfl<|ac rfl (jh (by omega) (by omega)) ?_
 exact ah (aV dT rfl ae)
theorem Gd:Ok Tryz.prog 279 [.c (.i .i64 m)] [.c (.b false)]:=by
 refine ca Tryz.func279 rfl ?_
 exact⟨.inr rfl,by simpa using(az ae)⟩
theorem Nq:Ok Tryz.prog 164 [.c (.i .i64 m),.c (.i .i64 n)] [.c (.i .i64 (eG m n))]:=by
 refine ca Tryz.func164 rfl<|ac rfl (Gd)<|ac rfl (Gd)<|qQ rfl<|qQ rfl ?_
 refine dD rfl (fun hc1=>?_) (fun hc1=>?_)
 ·refine ah ?_
  rw[fb (by simpa using hc1)]
  exact az ae
 ·refine dD rfl (fun hc2=>?_) (fun hc2=>?_)
  ·refine ah ?_
   rw[fk (by simpa using hc2)]
   exact az ae
  ·refine ah ?_
   rw[kw (by have:=hc1;have h2:=hc2;simp at this h2;omega)]
   exact az ae
theorem jZ:Ok Tryz.prog 68 [dR x] [.c (.i .i64 (aJ x 0))]:=by
 refine ca Tryz.func68 rfl ?_
 refine ac rfl (CK)<|ah ?_
 rw[←yi]
 exact az ae
theorem cH:Ok Tryz.prog 68 [dR x] [.c (.i .i64 (aJ x 0))]:=jZ
theorem M6:Ok Tryz.prog 162 [dI n] [dR (n:Rat)]:=by
 refine ca Tryz.func162 rfl<|cT 3 [] ?_
 refine aK rfl (FB) ?_
 refine aq (aM (us:=cQ n 1) vu uC rfl rfl rfl) ?_
 refine ah ?_
 rw[JV]
 exact aV bF rfl ae
theorem fY (h0: -9223372036854775808≤n) (h1:n≤9223372036854775807):Ok Tryz.prog 70 [.c (.i .i64 n)] [dR (n:Rat)]:=by
 refine ca Tryz.func70 rfl<|ac rfl (jh (by omega) (by omega))<|ac rfl (M6) ?_
 exact ah (aV bF rfl ae)
theorem iY (h0: -9223372036854775808≤n) (h1:n≤9223372036854775807):Ok Tryz.prog 70 [.c (.i .i64 n)] [dR (n:Rat)]:=fY h0 h1
theorem tW {x y:Int}(hx:Sz 100000000 x) (hy:Sz 100000000 y) (h0:y≠0):Ok Tryz.prog 293 [dI x,dI y] [dI (x.fdiv y)]:=by
 refine ca Tryz.func293 rfl<|ac rfl (nJ (eh hx) (eh hy) (by assumption)) ?_
 exact ah (aV dT rfl ae)
theorem oV {x y:Int}(hx:Sz 19980000 x) (hy:Sz 19980000 y) (h0:y≠0):Ok Tryz.prog 207 [dI x,dI y] [dR (Rat.divInt x y)]:=by
 have hg:=E7 (n:=x) h0
 have hg2:=E7 (n:= -x) (d:= -y) (by omega)
 have hgs:=Sz.gcd (x:=x) hy h0
 have hgs2:=Sz.gcd (x:= -x) hy.neg (by omega)
 refine ca Tryz.func207 rfl<|ac rfl (CK) ?_
 refine dD rfl (fun hc1=>?_) (fun hc1=>?_)
 ·have hn:=WY hc1
  refine cT 4 [] ?_
  refine aK rfl (yL (eh hx)) ?_
  refine aK rfl (yL (eh hy)) ?_
  refine ac rfl (Kl (eh (Sz.neg hx)) (eh (Sz.neg hy)))<|cT 4 [] ?_
  refine aK rfl (FB) ?_
  refine aK rfl (pI) ?_
  refine dD rfl (fun hc2=>?_) (fun hc2=>?_)
  ·refine cT 6 [] ?_
   refine aK rfl (tW (eh (Sz.neg hx)) (Rx) (by first|assumption|exact neg_ne (by assumption)|exact iJ (by assumption) (by assumption))) ?_
   refine aK rfl (tW (eh (Sz.neg hy)) (Rx) (by first|assumption|exact neg_ne (by assumption)|exact iJ (by assumption) (by assumption))) ?_
   refine ar (aM (us:=cQ ((-x).fdiv ((Int.gcd (-x) (-y):Int))) ((-y).fdiv ((Int.gcd (-x) (-y):Int)))) vu uC rfl rfl rfl) ?_
   refine ah ?_
   rw[IH,CP (by omega)]
   exact aV bF rfl ae
  ·refine ar (aM (us:=cQ (-x) (-y)) vu uC rfl rfl rfl) ?_
   refine ah ?_
   rw[IH,By (by omega) (Zo hc2)]
   exact aV bF rfl ae
 ·have hn:=Yn hc1
  refine ac rfl (Kl (eh hx) (eh hy))<|cT 4 [] ?_
  refine aK rfl (FB) ?_
  refine aK rfl (pI) ?_
  refine dD rfl (fun hc3=>?_) (fun hc3=>?_)
  ·refine cT 6 [] ?_
   refine aK rfl (tW (eh hx) (Rx) (by first|assumption|exact neg_ne (by assumption)|exact iJ (by assumption) (by assumption))) ?_
   refine aK rfl (tW (eh hy) (Rx) (by first|assumption|exact neg_ne (by assumption)|exact iJ (by assumption) (by assumption))) ?_
   refine ar (aM (us:=cQ (x.fdiv (Int.gcd x y:Int)) (y.fdiv (Int.gcd x y:Int))) vu uC rfl rfl rfl) ?_
   refine ah ?_
   rw[CP (by omega)]
   exact aV bF rfl ae
  ·refine ar (aM (us:=cQ x y) vu uC rfl rfl rfl) ?_
   refine ah ?_
   rw[By (by omega) (Zo hc3)]
   exact aV bF rfl ae
theorem wI {x y:Int}(hx:Sz 19980000 x) (hy:Sz 19980000 y) (h0:y≠0):Ok Tryz.prog 313 [dI x,dI y] [dR (Rat.divInt x y),.c (.i .i64 0)]:=by
 refine ca Tryz.func313 rfl<|ac rfl (CK) ?_
 refine dD rfl (fun hc1=>?_) (fun hc1=>?_)
 ·exact absurd (TO hc1) h0
 ·refine ac rfl (oV (eh hx) (eh hy) (by first|assumption|exact neg_ne (by assumption)|exact iJ (by assumption) (by assumption))) ?_
  exact ah (aV bF rfl (az ae))
theorem dS (hx:Rz 6000000 x):Ok Tryz.prog 72 [dR x] [dR (-x)]:=by
 refine ca Tryz.func72 rfl<|cT 6 [] ?_
 refine aK rfl (yL (eh (eZ hx))) ?_
 refine aq (aM (us:=cQ (-x.num) (x.den:Int)) vu uC rfl rfl rfl) ?_
 refine ah ?_
 rw[Oe (Rat.neg_num x) (congrArg Int.ofNat (Rat.neg_den x))]
 exact aV bF rfl ae
theorem Kq (hx:Rz 300 x):Ok Tryz.prog 72 [dR x] [dR (-x)]:=dS (hx.mono (by decide))
theorem jy (hx:Rz 6000000 x) (hy:Rz 6000000 y):Ok Tryz.prog 206 [dR x,dR y] [dR (x+y)]:=by
 have hn:=iJ (jL x) (jL y)
 have hn1:=jL x
 refine ca Tryz.func206 rfl<|ac rfl (pI) ?_
 refine dD rfl (fun hc1=>?_) (fun hc1=>?_)
 ·refine cT 8 [] ?_
  refine aK rfl (tP (eh (eZ hx)) (eh (eZ hy))) ?_
  refine aK rfl (oV (eh (Sz.addm (eZ hx) (eZ hy))) (eh (cZ hx)) (by first|assumption|exact neg_ne (by assumption)|exact iJ (by assumption) (by assumption))) ?_
  refine ah ?_
  rw[←aa3 (TO hc1)]
  exact aV bF rfl ae
 ·refine cT 17 [] ?_
  refine aK rfl (gG (eh (eZ hx)) (eh (cZ hy))) ?_
  refine aK rfl (gG (eh (eZ hy)) (eh (cZ hx))) ?_
  refine aK rfl (tP (eh (dC (eZ hx) (cZ hy))) (eh (dC (eZ hy) (cZ hx)))) ?_
  refine aK rfl (gG (eh (cZ hx)) (eh (cZ hy))) ?_
  refine aK rfl (oV (eh (Sz.addm (dC (eZ hx) (cZ hy)) (dC (eZ hy) (cZ hx)))) (eh (dC (cZ hx) (cZ hy))) (by first|assumption|exact neg_ne (by assumption)|exact iJ (by assumption) (by assumption))) ?_
  refine ah ?_
  rw[←O3]
  exact aV bF rfl ae
theorem Sp (hx:Rz 300 x) (hy:Rz 300 y):Ok Tryz.prog 206 [dR x,dR y] [dR (x+y)]:=jy (hx.mono (by decide)) (hy.mono (by decide))
theorem fp (hx:Rz 6000000 x) (hy:Rz 6000000 y):Ok Tryz.prog 208 [dR x,dR y] [dR (x-y)]:=by
 refine ca Tryz.func208 rfl<|cT 4 [] ?_
 refine aK rfl (dS (aQ hy)) ?_
 refine aK rfl (jy (aQ hx) (aQ (oC hy)))<|ah ?_
 rw[Rat.sub_eq_add_neg]
 exact aV bF rfl ae
theorem S6 (hx:Rz 300 x) (hy:Rz 300 y):Ok Tryz.prog 208 [dR x,dR y] [dR (x-y)]:=fp (hx.mono (by decide)) (hy.mono (by decide))
theorem cW (hx:Rz 6000000 x) (hy:Rz 6000000 y):Ok Tryz.prog 233 [dR x,dR y] [dR (x*y)]:=by
 have hn:=iJ (jL x) (jL y)
 refine ca Tryz.func233 rfl<|cT 11 [] ?_
 refine aK rfl (gG (eh (eZ hx)) (eh (eZ hy))) ?_
 refine aK rfl (gG (eh (cZ hx)) (eh (cZ hy))) ?_
 refine aK rfl (oV (eh (dC (eZ hx) (eZ hy))) (eh (dC (cZ hx) (cZ hy))) (by first|assumption|exact neg_ne (by assumption)|exact iJ (by assumption) (by assumption))) ?_
 refine ah ?_
 rw[←SB]
 exact aV bF rfl ae
theorem Ul (hx:Rz 300 x) (hy:Rz 300 y):Ok Tryz.prog 233 [dR x,dR y] [dR (x*y)]:=cW (hx.mono (by decide)) (hy.mono (by decide))
theorem qy (hx:Rz 6000000 x) (hy:Rz 6000000 y) (h0:y≠0):Ok Tryz.prog 116 [dR x,dR y] [dR (x/y),.c (.i .i64 0)]:=by
 have hn:=iJ (jL x) (NI h0)
 refine ca Tryz.func116 rfl<|ac rfl (cH) ?_
 refine dD rfl (fun hc1=>?_) (fun hc1=>?_)
 ·exact absurd (FI hc1) h0
 ·refine cT 11 [] ?_
  refine aK rfl (gG (eh (eZ hx)) (eh (cZ hy))) ?_
  refine aK rfl (gG (eh (cZ hx)) (eh (eZ hy))) ?_
  refine aK rfl (oV (eh (dC (eZ hx) (cZ hy))) (eh (dC (cZ hx) (eZ hy))) (by first|assumption|exact neg_ne (by assumption)|exact iJ (by assumption) (by assumption))) ?_
  refine ah ?_
  rw[←SP]
  exact aV bF rfl (az ae)
theorem LL (hx:Rz 300 x) (hy:Rz 300 y) (h0:y≠0):Ok Tryz.prog 116 [dR x,dR y] [dR (x/y),.c (.i .i64 0)]:=qy (hx.mono (by decide)) (hy.mono (by decide)) h0
theorem lF (hx:Rz 6000000 x) (hy:Rz 6000000 y):Ok Tryz.prog 71 [dR x,dR y] [.c (.i .i64 (aJ x y))]:=by
 refine ca Tryz.func71 rfl<|cT 6 [] ?_
 refine aK rfl (cH) ?_
 refine aK rfl (cH) ?_
 refine aK rfl (Nq) ?_
 refine dD rfl (fun hc1=>?_) (fun hc1=>?_)
 ·refine ah ?_
  rw[←JO hc1]
  exact az ae
 ·refine cT 12 [] ?_
  refine aK rfl (gG (eh (eZ hx)) (eh (cZ hy))) ?_
  refine aK rfl (gG (eh (eZ hy)) (eh (cZ hx))) ?_
  refine aK rfl (pI)<|ah ?_
  rw[Gt (x:=x) (y:=y)]
  exact az ae
theorem tE (hx:Rz 300 x) (hy:Rz 300 y):Ok Tryz.prog 71 [dR x,dR y] [.c (.i .i64 (aJ x y))]:=lF (hx.mono (by decide)) (hy.mono (by decide))
theorem xq (hx:Rz 6000000 x):Ok Tryz.prog 323 [dR x] [dI (x.num.fdiv (x.den:Int))]:=by
 have hn1:=jL x
 refine ca Tryz.func323 rfl<|ac rfl (nJ (eh (eZ hx)) (eh (cZ hx)) (by assumption)) ?_
 exact ah (aV dT rfl ae)
theorem Ed {x:Int}(hx:Sz 6000000 x):Ok Tryz.prog 364 [dI x] [dI (bV x),.c (.b (Dg x))]:=by
 have hs:=Sz.isq hx
 refine ca Tryz.func364 rfl<|ac rfl (CB (eh hx))<|cT 13 [2,999999] ?_
 refine AF (bz rfl) (fun c1 hb1=>?_)
 cases c1
 ·refine DQ.mk<|jb (fg dT rfl) rfl rfl rfl rfl<|d7 ?_
  refine ah ?_
  rw[LB (e7 hb1)]
  exact aV dT rfl (az ae)
 ·refine aK rfl (gG (eh (Sz.isq hx)) (eh (Sz.isq hx))) ?_
  refine aK rfl (pI) ?_
  refine DQ.mk<|LI (fg dT rfl) rfl rfl (by kernel_rfl) rfl<|d7 ?_
  refine ah ?_
  rw[K3]
  exact aV dT rfl (az ae)
theorem Ej (hx:Rz 6000000 x):Ok Tryz.prog 319 [dR x] [dQ (if jd x then bV x.num else 0) (if jd x then bV (x.den:Int) else 0),.c (.b (jd x))]:=by
 refine ca Tryz.func319 rfl<|ac rfl (Ed (eh (eZ hx))) ?_
 refine dD rfl (fun hc1=>?_) (fun hc1=>?_)
 ·refine ac rfl (Ed (eh (cZ hx))) ?_
  refine dD rfl (fun hc2=>?_) (fun hc2=>?_)
  ·refine ar (aM (us:=cQ (bV x.num) (bV (x.den:Int))) vu uC rfl rfl rfl) ?_
   refine ah ?_
   rw[Vk hc1 hc2,if_pos rfl,if_pos rfl]
   exact aV bF rfl (az ae)
  ·refine ar (aM (us:=(([.b false]++[.s 0 []])++([.b false]++[.s 0 []]))) vu uC rfl rfl rfl) ?_
   refine ah ?_
   rw[OD hc2,if_neg (by decide),if_neg (by decide),AZ]
   exact aV bF rfl (az ae)
 ·refine ar (aM (us:=(([.b false]++[.s 0 []])++([.b false]++[.s 0 []]))) vu uC rfl rfl rfl) ?_
  refine ah ?_
  rw[NQ hc1,if_neg (by decide),if_neg (by decide),AZ]
  exact aV bF rfl (az ae)
theorem HM:Ok Tryz.prog 67 [] [dI 1]:=by
 refine ca Tryz.func67 rfl<|ac rfl (qO (by omega) (by omega)) ?_
 exact ah (aV dT rfl ae)
theorem gW:Ok Tryz.prog 79 [dR x] [.c (.i .i64 (aJ x 0))]:=by
 refine ca Tryz.func79 rfl ?_
 refine ac rfl (yC)<|ah ?_
 rw[←yi]
 exact az ae
theorem dj:Ok Tryz.prog 79 [dR x] [.c (.i .i64 (aJ x 0))]:=gW
theorem dG (h0: -9223372036854775808≤n) (h1:n≤9223372036854775807):Ok Tryz.prog 18 [.c (.i .i64 n)] [dR (n:Rat)]:=by
 refine ca Tryz.func18 rfl<|ac rfl (qO (by omega) (by omega))<|ac rfl (HM)<|ar (aM (us:=cQ n 1) vu uC rfl rfl rfl) ?_
 refine ah ?_
 rw[JV]
 exact aV bF rfl ae
theorem eu (h0: -9223372036854775808≤n) (h1:n≤9223372036854775807):Ok Tryz.prog 18 [.c (.i .i64 n)] [dR (n:Rat)]:=dG h0 h1
theorem qY {x y:Int}(hx:Sz 19980000 x) (hy:Sz 19980000 y) (h0:y≠0):Ok Tryz.prog 101 [dI x,dI y] [dR (Rat.divInt x y)]:=by
 have hg:=E7 (n:=x) h0
 have hg2:=E7 (n:= -x) (d:= -y) (by omega)
 have hgs:=(Sz.gcd (x:=x) hy h0).mono (l:=20000000) (by decide)
 have hgs2:=(Sz.gcd (x:= -x) hy.neg (by omega)).mono (l:=20000000) (by decide)
 refine ca Tryz.func101 rfl<|ac rfl (yC) ?_
 refine dD rfl (fun hc1=>?_) (fun hc1=>?_)
 ·have hn:=WY hc1
  refine cT 4 [] ?_
  refine aK rfl (wC (eh hx)) ?_
  refine aK rfl (wC (eh hy)) ?_
  refine ac rfl (FT (eh (Sz.neg hx)) (eh (Sz.neg hy))) ?_
  refine ac rfl (mr (eh (Sz.neg hx)) (Rx) (by assumption)) ?_
  refine ac rfl (mr (eh (Sz.neg hy)) (Rx) (by assumption)) ?_
  refine ar (aM (us:=cQ ((-x).fdiv ((Int.gcd (-x) (-y):Int))) ((-y).fdiv ((Int.gcd (-x) (-y):Int)))) vu uC rfl rfl rfl) ?_
  refine ah ?_
  rw[IH,CP (by omega)]
  exact aV bF rfl ae
 ·have hn:=Yn hc1
  refine ac rfl (FT (eh hx) (eh hy))<|ac rfl (mr (eh hx) (Rx) (by assumption))<|ac rfl (mr (eh hy) (Rx) (by assumption))<|ar (aM (us:=cQ (x.fdiv (Int.gcd x y:Int)) (y.fdiv (Int.gcd x y:Int))) vu uC rfl rfl rfl) ?_
  refine ah ?_
  rw[CP (by omega)]
  exact aV bF rfl ae
theorem M2 {x y:Int}(hx:Sz 19980000 x) (hy:Sz 19980000 y) (h0:y≠0):Ok Tryz.prog 290 [dI x,dI y] [dR (Rat.divInt x y),.c (.i .i64 0)]:=by
 refine ca Tryz.func290 rfl<|ac rfl (yC) ?_
 refine dD rfl (fun hc1=>?_) (fun hc1=>?_)
 ·exact absurd (TO hc1) h0
 ·refine ac rfl (qY (eh hx) (eh hy) (by first|assumption|exact neg_ne (by assumption)|exact iJ (by assumption) (by assumption))) ?_
  exact ah (aV bF rfl (az ae))
theorem As {d:Int}(h0: -9223372036854775808≤n) (h1:n≤9223372036854775807) (h2: -9223372036854775808≤d) (h3:d≤9223372036854775807) (hd:d≠0):Ok Tryz.prog 30 [.c (.i .i64 n),.c (.i .i64 d)] [dR (Rat.divInt n d)]:=by
 have z1:Sz 19980000 n:=dY (by decide) h0 h1
 have z2:Sz 19980000 d:=dY (by decide) h2 h3
 refine ca Tryz.func30 rfl ?_
 refine dD rfl (fun hc1=>?_) (fun hc1=>?_)
 ·exact absurd (by simpa using hc1) hd
 ·refine ac rfl (qO (by omega) (by omega))<|ac rfl (qO (by omega) (by omega)) ?_
  refine ac rfl (qY (Rx) (Rx) (by first|assumption|exact neg_ne (by assumption)|exact iJ (by assumption) (by assumption))) ?_
  exact ah (aV bF rfl ae)
theorem lX (hx:Rz 6000000 x):Ok Tryz.prog 93 [dR x] [dR (-x)]:=by
 refine ca Tryz.func93 rfl<|cT 6 [] ?_
 refine aK rfl (wC (eh (eZ hx))) ?_
 refine aq (aM (us:=cQ (-x.num) (x.den:Int)) vu uC rfl rfl rfl) ?_
 refine ah ?_
 rw[Oe (Rat.neg_num x) (congrArg Int.ofNat (Rat.neg_den x))]
 exact aV bF rfl ae
theorem cn (hx:Rz 6000000 x) (hy:Rz 6000000 y):Ok Tryz.prog 113 [dR x,dR y] [dR (x+y)]:=by
 have hn:=iJ (jL x) (jL y)
 refine ca Tryz.func113 rfl<|ac rfl (nW (eh (eZ hx)) (eh (cZ hy)))<|ac rfl (nW (eh (eZ hy)) (eh (cZ hx)))<|cT 9 [] ?_
 refine aK rfl (A8 (eh (dC (eZ hx) (cZ hy))) (eh (dC (eZ hy) (cZ hx)))) ?_
 refine aK rfl (nW (eh (cZ hx)) (eh (cZ hy))) ?_
 refine aK rfl (qY (eh (Sz.addm (dC (eZ hx) (cZ hy)) (dC (eZ hy) (cZ hx)))) (eh (dC (cZ hx) (cZ hy))) (by first|assumption|exact neg_ne (by assumption)|exact iJ (by assumption) (by assumption))) ?_
 refine ah ?_
 rw[←O3]
 exact aV bF rfl ae
theorem fi (hx:Rz 6000000 x) (hy:Rz 6000000 y):Ok Tryz.prog 95 [dR x,dR y] [dR (x-y)]:=by
 refine ca Tryz.func95 rfl<|cT 4 [] ?_
 refine aK rfl (lX (aQ hy)) ?_
 refine aK rfl (cn (aQ hx) (aQ (oC hy)))<|ah ?_
 rw[Rat.sub_eq_add_neg]
 exact aV bF rfl ae
theorem ck (hx:Rz 6000000 x) (hy:Rz 6000000 y):Ok Tryz.prog 96 [dR x,dR y] [dR (x*y)]:=by
 have hn:=iJ (jL x) (jL y)
 refine ca Tryz.func96 rfl<|cT 11 [] ?_
 refine aK rfl (nW (eh (eZ hx)) (eh (eZ hy))) ?_
 refine aK rfl (nW (eh (cZ hx)) (eh (cZ hy))) ?_
 refine aK rfl (qY (eh (dC (eZ hx) (eZ hy))) (eh (dC (cZ hx) (cZ hy))) (by first|assumption|exact neg_ne (by assumption)|exact iJ (by assumption) (by assumption))) ?_
 refine ah ?_
 rw[←SB]
 exact aV bF rfl ae
theorem n9 (hx:Rz 6000000 x) (hy:Rz 6000000 y) (h0:y≠0):Ok Tryz.prog 205 [dR x,dR y] [dR (x/y),.c (.i .i64 0)]:=by
 have hn:=iJ (jL x) (NI h0)
 refine ca Tryz.func205 rfl<|cT 13 [] ?_
 refine aK rfl (nW (eh (eZ hx)) (eh (cZ hy))) ?_
 refine aK rfl (nW (eh (cZ hx)) (eh (eZ hy))) ?_
 refine aK rfl (M2 (eh (dC (eZ hx) (cZ hy))) (eh (dC (cZ hx) (eZ hy))) (by first|assumption|exact neg_ne (by assumption)|exact iJ (by assumption) (by assumption))) ?_
 refine ah ?_
 rw[←SP]
 exact aV bF rfl (az ae)
theorem jF (hx:Rz 6000000 x) (hy:Rz 6000000 y):Ok Tryz.prog 32 [dR x,dR y] [.c (.i .i64 (aJ x y))]:=by
 refine ca Tryz.func32 rfl<|cT 12 [] ?_
 refine aK rfl (nW (eh (eZ hx)) (eh (cZ hy))) ?_
 refine aK rfl (nW (eh (eZ hy)) (eh (cZ hx))) ?_
 refine aK rfl (K6 (eh (dC (eZ hx) (cZ hy))) (eh (dC (eZ hy) (cZ hx))))<|ah ?_
 rw[Gt (x:=x) (y:=y)]
 exact az ae
theorem jW (hx:Rz 6000000 x):Ok Tryz.prog 371 [dR x] [dI (x.num.fdiv (x.den:Int))]:=by
 have hn1:=jL x
 refine ca Tryz.func371 rfl<|ac rfl (mr (eh (eZ hx)) (eh (cZ hx)) (by assumption)) ?_
 exact ah (aV dT rfl ae)
theorem DO {x:Int}(hx:Sz 6000000 x):Ok Tryz.prog 273 [dI x] [dI (bV x),.c (.b (Dg x))]:=by
 have hs:=Sz.isq hx
 refine ca Tryz.func273 rfl<|ac rfl (vV (eh hx))<|cT 12 [2,999999] ?_
 refine AF (bz rfl) (fun c1 hb1=>?_)
 cases c1
 ·refine DQ.mk<|jb (fg dT rfl) rfl rfl rfl rfl<|d7 ?_
  refine ah ?_
  rw[LB (e7 hb1)]
  exact aV dT rfl (az ae)
 ·refine aK rfl (nW (eh (Sz.isq hx)) (eh (Sz.isq hx))) ?_
  refine aK rfl (yb (eh (dC (Sz.isq hx) (Sz.isq hx))) (eh hx)) ?_
  refine DQ.mk<|LI (fg dT rfl) rfl rfl (by kernel_rfl) rfl<|d7 ?_
  refine ah ?_
  rw[show Dg x=(bV x*bV x==x) from rfl]
  exact aV dT rfl (az ae)
theorem sT (hx:Rz 6000000 x):Ok Tryz.prog 151 [dR x] [dQ (if jd x then bV x.num else 0) (if jd x then bV (x.den:Int) else 0),.c (.b (jd x))]:=by
 refine ca Tryz.func151 rfl<|ac rfl (DO (eh (eZ hx)))<|ac rfl (DO (eh (cZ hx))) ?_
 refine jT (bz rfl) (fun c1 hb1=>?_)
 cases c1
 ·refine dD rfl (fun hc2=>?_) (fun hc2=>?_)
  ·refine ar (aM (us:=(([.b false]++[.s 0 []])++([.b false]++[.s 0 []]))) vu uC rfl rfl rfl) ?_
   refine ah ?_
   rw[OD (by simpa using hc2),if_neg (by decide),if_neg (by decide),AZ]
   exact aV bF rfl (az ae)
  ·refine ar (aM (us:=cQ (bV x.num) (bV (x.den:Int))) vu uC rfl rfl rfl) ?_
   refine ah ?_
   rw[Vk (by simpa using hb1) (by simpa using hc2),if_pos rfl,if_pos rfl]
   exact aV bF rfl (az ae)
 ·refine tg rfl<|ar (aM (us:=(([.b false]++[.s 0 []])++([.b false]++[.s 0 []]))) vu uC rfl rfl rfl) ?_
  refine ah ?_
  rw[NQ (by simpa using hb1),if_neg (by decide),if_neg (by decide),AZ]
  exact aV bF rfl (az ae)
theorem Gv (hx:Rz 300 x):Ok Tryz.prog 151 [dR x] [dQ (if jd x then bV x.num else 0) (if jd x then bV (x.den:Int) else 0),.c (.b (jd x))]:=sT (hx.mono (by decide))
theorem El (hx:Rz 6000000 x) (hy:Rz 6000000 y):Ok Tryz.prog 40 [dR x,dR y] [.c (.b (decide (x=y)))]:=by
 refine ca Tryz.func40 rfl ?_
 refine ac rfl (yb (eh (eZ hx)) (eh (eZ hy))) ?_
 refine jT (bz rfl) (fun c1 hb1=>?_)
 cases c1
 ·refine ah ?_
  rw[WE hb1]
  exact az ae
 ·refine ac rfl (yb (eh (cZ hx)) (eh (cZ hy)))<|ah ?_
  rw[Yv hb1]
  exact az ae
theorem Mg {neg:Bool}{xs:List Int}(hb:SS xs) (hn:xs.length≤10000000):Ok Tryz.prog 73 [.a (([.b neg]++[cM xs]))] [.c (.b (vI neg xs))]:=by
 refine ca Tryz.func73 rfl ?_
 refine DW.mk<|bh (ι:={k:Nat // k≤xs.length∧ ∀j,j<k→xs.getD j 0<1000000000}) (fun i=>⟨36,[(1,.p 1 0),(3,.v (.c (.i .i64 (i.1:Int))))],[(1,36,([.b neg]++[cM xs]))]⟩) (fun i=>xs.length-i.1) ⟨0,eK _,fun j hj=>by omega⟩ (ao ⟨rfl,rfl,trivial⟩ ⟨rfl,trivial⟩ rfl) ?_
 rintro⟨k,hk0,hall⟩
 replace hk0:k≤xs.length:=hk0
 replace hall: ∀j,j<k→xs.getD j 0<1000000000:=hall
 have hg:=Qi hb k
 dsimp only
 refine no ?_
 refine dD rfl (fun hc1=>?_) (fun hc1=>?_)
 ·have hk:k<xs.length:=by simp only[decide_eq_true_eq] at hc1;omega
  refine ar (bH ju rfl rfl (by omega) (jx _) rfl rfl) ?_
  refine ar (b5 fF rfl (lk (i:=k) (by omega)) rfl) ?_
  refine dD rfl (fun hc2=>?_) (fun hc2=>?_)
  ·have hbad:xs.getD k 0≥1000000000:=by simpa using hc2
   refine ah ?_
   rw[W2 hk hbad]
   exact az ae
  ·have hok: ¬xs.getD k 0≥1000000000:=by simpa using hc2
   have hstep: ∀j,j<k+1→xs.getD j 0<1000000000:=fun j hj=>by
    rcases io j k with h1|h1
    ·exact hall j h1
    ·rw[show j=k from by omega];omega
   refine ar (ci ((k:Int)+1) (bk (by omega) (by omega)) rfl) ?_
   exact⟨⟨k+1,hk,hstep⟩,ao ⟨rfl,by rw[show((k+1:Nat):Int)=(k:Int)+1 from by omega];rfl,trivial⟩ ⟨rfl,trivial⟩ rfl,by show xs.length-(k+1)<xs.length-k;omega⟩
 ·have hk:k=xs.length:=by simp only[decide_eq_false_iff_not] at hc1;omega
  have hL:Lim xs:=ID hb (by rw[←hk];exact hall)
  refine cT 20 [] ?_
  refine aK rfl (lu hL (by omega)) ?_
  refine AF (bz rfl) (fun c3 hb3=>?_)
  cases c3
  ·refine DQ.mk<|wJ (oE rfl)<|d7 ?_
   refine ah ?_
   rw[Jk hL,hb3,pk]
   exact az ae
  ·refine AF (bz rfl) (fun c4 hb4=>?_)
   cases c4
   ·refine ah ?_
    rw[Jk hL,hb3,hb4,Bool.false_or,iO]
    exact az ae
   ·refine ah ?_
    rw[Jk hL,hb3,hb4,Bool.true_or,iO]
    exact az ae
def vQ (x y:Int):Bool:=decide (0<y)&&(((Int.gcd x y:Nat):Int)==1)
theorem acL {x:Int}:vI (decide (x<0)) (du x.natAbs)=true:=by
 unfold vI
 rw[BX (b8 _),show trm (du x.natAbs)=du x.natAbs from jr _]
 by_cases h:x<0
 ·have:du x.natAbs≠ []:=fun e=>by have:=eg.1 e;omega
  have:=List.length_pos_iff.2 this
  grind
 grind
theorem Ur (v:Nat):SS (du v):=fun x hx=>by have:=b8 v x hx;omega
theorem Im {x:Int}(hx:Sz 10000000 x):Ok Tryz.prog 73 [dI x] [.c (.b true)]:=by
 have:=Mg (neg:=decide (x<0)) (xs:=du x.natAbs) (Ur _) (ii hx)
 rw[acL] at this;exact this
theorem ac0 {x y:Int}(h:vQ x y=true):cQ x y=cR (Rat.divInt x y):=by
 unfold vQ at h
 simp only[dN,decide_eq_true_eq,beq_iff_eq] at h
 have:=By (n:=x) h.1 h.2
 unfold dR dQ at this
 injection this with this
 exact this.symm
theorem ZV (x:Rat):vQ x.num (x.den:Int)=true:=by
 unfold vQ
 simp only[dN,decide_eq_true_eq,beq_iff_eq]
 refine⟨den_pos x,?_⟩
 have:Int.gcd x.num (x.den:Int)=1:=x.reduced
 grind
theorem Rb {x y:Int}(h:vQ x y=true):(Rat.divInt x y).num=x∧((Rat.divInt x y).den:Int)=y:=by
 unfold vQ at h
 simp only[dN,decide_eq_true_eq,beq_iff_eq] at h
 obtain⟨h1,h2⟩:=h
 have h3:Int.gcd x y=1:=by omega
 rw[Rat.num_divInt,Rat.den_divInt,if_neg (by omega),Int.sign_eq_one_of_pos h1,pt,Int.gcd_comm y x,h3]
 grind
theorem Zm {x y:Int}(h:(eG y 0 !=1)=true):vQ x y=false:=by
 unfold vQ
 have h1: ¬0<y:=fun e=>by rw[fk e] at h;cases h
 grind
theorem aaU {y:Int}(h:(eG y 0 !=1)=false):y≠0:=fun e=>by rw[kw e] at h;cases h
theorem ZA {x y:Int}(h:(eG y 0 !=1)=false):vQ x y=(((Int.gcd x y:Nat):Int)==1):=by
 unfold vQ
 have h1:0<y:=by
  rcases rK y 0 with e|e|e
  ·rw[fb e] at h;cases h
  ·rw[kw e] at h;cases h
  grind
 grind
end Go.Proofs.YtegpmhlfjkhjmaaGreat
namespace Go.Proofs.YtegpmhlfjkhjmaaGreat
open Go.ChangeShapes Go.WideShapes Go.ChangeAt Go.RowKit Go.Deep
theorem own:ownKnob Tryz.prog.godebug=none:=by kernel_rfl
theorem JX:laidOutB Tryz.prog=true:=by kernel_rfl
def RT:Nat→Prop:=fun _=>False
section
variable {H:Type}{enc:TypeId×Value→H}{w:World}{base:Nat}{spare:Nat→Bool}{held:Bool}
theorem Hi {α:Type}{p:Nat→α→Prop}: ∀(n:Nat),(∀i,i<n→ ∃a,p i a)→ ∃l:List α,l.length=n∧ ∀i a,l[i]? =some a→p i a
 |0,_=>⟨[],rfl,fun i a h=>by simp at h⟩
 |n+1,h=>by
  obtain⟨l,hl,hp⟩:=Hi n (fun i hi=>h i (by omega))
  obtain⟨a,ha⟩:=h n (by omega)
  refine⟨l++[a],by simp[hl],fun i b hb=>?_⟩
  rcases io i n with h1|h1
  ·rw[CA (by omega)] at hb;exact hp i b hb
  ·rw[Co (by omega)] at hb
   have:i=n:=by
    rcases io (i-l.length) 1 with h2|h2
    ·omega
    ·rw[tL (by simpa using h2)] at hb;cases hb
   subst this
   rw[hl] at hb;simp at hb;subst hb;exact ha
theorem K9 (a:Addr) (k:Nat) (v:Value) (h:w.cell? (a.add k)=some v):w.cell? ⟨a.block,a.off+k,none⟩=some v:=by
 obtain⟨b,off,spot⟩:=a
 by_cases hk:k=0
 ·subst hk
  have hs:spot=none:=by simpa [Addr.add] using World.cell?_spot h
  subst hs
  simpa [Addr.add] using h
 ·simpa [Addr.add,hk] using h
theorem PJ (a:Addr) (v:Value) (h:w.cell? (a.add 0)=some v):a=⟨a.block,a.off,none⟩:=by
 obtain⟨b,off,spot⟩:=a
 have hs:spot=none:=by simpa [Addr.add] using World.cell?_spot h
 subst hs;rfl
theorem X2 (b off:Nat) (v:Value) (h:w.cell? ⟨b,off,none⟩=some v):b<w.heap.size:=World.block_lt_of_cell? w _ h
theorem WI {f:FuncId}{ds:List D0}{vs:Array Value}{W:World}(h:Ok Tryz.prog f ds [.c (.b true)]) (hr:RdL RT W vs.toList ds):Calls Tryz.prog f vs W fun e W'=>e=.returned (.bool true)∧Below W.heap.size W W':=
 (h.run RT vs W (fun _ h=>h.elim) hr).mono fun e w' ⟨v,e1,h1,h2⟩=>by
  have:=uY h1
  subst this
  exact⟨e1,h2⟩
end
end Go.Proofs.YtegpmhlfjkhjmaaGreat
namespace Go.Proofs.YtegpmhlfjkhjmaaGreat
open Go.ChangeShapes Go.WideShapes Go.ChangeAt Go.RowKit
theorem Nc:Tryz.pinned.checked.prog.funcNamed Rows.engagementArcsRow.func=some 3:=by kernel_rfl
theorem Me:joinedFacts Tryz.pinned.checked.prog 3 Tryz.f3 Rows.engagementArcsSpec Rows.engagementArcsRow=true:=by kernel_rfl
end Go.Proofs.YtegpmhlfjkhjmaaGreat
namespace Go.Proofs.YtegpmhlfjkhjmaaGreat
open Go Go.RowKit
variable {ops:Array Oper}{B:BF}{hi lo m n r s t:Int}{k:IntKind}{P:Program}{p:Prop}{A C D M N a a1 a2 b b1 b2 c c1 c2 d e f v w x y:Rat}{T:TF}{U t1 t2:TypeId}
variable {ty:TypeId}{pos:String}{af:Array Edge}{g:Option (Nat×Bool)}{dst:Option Nat}
section
variable {P:Program}{ops:Array Oper}{T:TF}{B:BF}
theorem F6 {x y:Operand}
 (hx:cE T x=some (.v (.c (.i k m)))) (hy:cE T y=some (.v (.c (.i k n)))) (hg:gd ops ⟨dst,.call ⟨.builtin .max,#[x,y],#[t1,t2]⟩,ty,pos,af,g⟩ T=some true):
 Sem P ops ⟨dst,.call ⟨.builtin .max,#[x,y],#[t1,t2]⟩,ty,pos,af,g⟩ T B (.r (.v (.c (.i k (max m n))))):=
 bQ hg (pP rfl) (fun V β a w hs=>by
  have e1:a.eval x=.int k m:=fQ (aE hs (x:=x) (by simp[Op.operands,Call.operands]) hx)
  have e2:a.eval y=.int k n:=fQ (aE hs (x:=y) (by simp[Op.operands,Call.operands]) hy)
  refine⟨.int k (max m n),?_,.i _ _⟩
  simp[execOp,resolve,invoke,builtin,Builtin.max_,Builtin.max2,e1,e2]
  split<;>omega)
theorem LO {x y:Operand}
 (hx:cE T x=some (.v (.c (.i k m)))) (hy:cE T y=some (.v (.c (.i k n)))) (hg:gd ops ⟨dst,.call ⟨.builtin .min,#[x,y],#[t1,t2]⟩,ty,pos,af,g⟩ T=some true):
 Sem P ops ⟨dst,.call ⟨.builtin .min,#[x,y],#[t1,t2]⟩,ty,pos,af,g⟩ T B (.r (.v (.c (.i k (min m n))))):=
 bQ hg (pP rfl) (fun V β a w hs=>by
  have e1:a.eval x=.int k m:=fQ (aE hs (x:=x) (by simp[Op.operands,Call.operands]) hx)
  have e2:a.eval y=.int k n:=fQ (aE hs (x:=y) (by simp[Op.operands,Call.operands]) hy)
  refine⟨.int k (min m n),?_,.i _ _⟩
  simp[execOp,resolve,invoke,builtin,Builtin.min_,Builtin.min2,e1,e2]
  split<;>omega)
end
theorem bX {e:TypeId}{ps:Array (Nat×Operand)}{n m by_:Nat}{zs us:List CellD}{dps:List (Nat×D0)}
 (hU:tR P U=some (e,m,by_,zs)) (hp:u7 T ps.toList=some dps) (hf:xe (fun i=>some (i*m,m)) (List.replicate n zs).flatten dps=some us) (hl:us.length=n*m) (hn:n*m≤16777216) (hm:0<n*m)
 (hg:gd ops ⟨dst,.buildSlice U n ps,ty,pos,af,g⟩ T=some true):Sem P ops ⟨dst,.buildSlice U n ps,ty,pos,af,g⟩ T B (.r (.v (.c (.s n us)))):=by
 have h:=oD (B:=B) hU hp hf hn hm hg
 refine⟨pP rfl,fun V β a w hs=>?_⟩
 obtain⟨hw,hg⟩:=h V β a w hs
 refine⟨hw,hg.mono ?_⟩
 rintro v w' ⟨vs,rfl,rfl,hr⟩
 refine⟨?_,(eL _ w).alloc (ce _) _⟩
 have hkeep:=Keep.below (av:=V) ((eL w.heap.size w).alloc (ce _) (.cells vs e))
 have hr2:=hr.keep hkeep
 have hvl:vs.size=n*m:=by have:=hr.1;rw[hl] at this;simpa using this
 have hn0:0<n:=by grind
 have hm0:0<m:=by grind
 have hnm:n≤n*m:=Nat.le_mul_of_pos_right n hm0
 refine .s w.heap.size 0 n m n _ (fun j=>vs.getD j undef) hn0 (ce _) (by omega) hl (by simp) (fun h=>by have:=hs.av _ h;omega) (fun j hj=>?_) (fun j u hj=>?_)
 ·simp_all
 ·have hlt:j<n*m:=by have:=(ji.1 hj).1;omega
  refine hr2.2 j _ u ?_ hj
  have:j<vs.size:=by omega
  simp[Array.getD,this]
theorem aP {o:Oper}{b c:Bool}(h:Sem P ops o T B (.r (.v (.c (.b b))))) (e:b=c):Sem P ops o T B (.r (.v (.c (.b c)))):=by subst e;exact h
theorem fU {a b:Int}(h0: -9223372036854775808≤a*b) (h1:a*b≤9223372036854775807):CO .mul .i64 a b=some (a*b):=congrArg some (qN h0 h1)
section
variable {P:Program}{f:FuncId}{ds rs:List D0}{x y z u v x' y' z' u' v':Rat}
theorem gM (h:Ok P f ds [dR x]) (e:x=x'):Ok P f ds [dR x']:=by subst e;exact h
theorem CC (h:Ok P f ds [.a (cR x++cR y++cR z)]) (e1:x=x') (e2:y=y') (e3:z=z'):Ok P f ds [.a (cR x'++cR y'++cR z')]:=by subst e1 e2 e3;exact h
theorem F3 {rs:List D0}(h:Ok P f ds (.a (cR x++cR y++cR z++cR u++cR v)::rs)) (e1:x=x') (e2:y=y') (e3:z=z') (e4:u=u') (e5:v=v'):Ok P f ds (.a (cR x'++cR y'++cR z'++cR u'++cR v')::rs):=by grind
theorem ez {b c:Bool}(h:Ok P f ds [.c (.b b)]) (e:b=c):Ok P f ds [.c (.b c)]:=by subst e;exact h
theorem bY {b c:Int}(h:Ok P f ds [.c (.i .i64 b)]) (e:b=c):Ok P f ds [.c (.i .i64 c)]:=by subst e;exact h
end
theorem Bc:aJ x y≤0↔x≤y:=by
 unfold aJ
 split
 ·rename_i h;exact⟨fun _=>by grind,fun _=>by omega⟩
 ·split
  ·rename_i h;exact⟨fun h2=>by omega,fun h2=>by grind⟩
  ·rename_i h1 h2;exact⟨fun _=>by grind,fun _=>by omega⟩
theorem Ss:aJ x y≥0↔y≤x:=by
 unfold aJ
 split
 ·rename_i h;exact⟨fun _=>by omega,fun _=>by grind⟩
 ·split
  ·rename_i h;exact⟨fun h2=>by grind,fun h2=>by omega⟩
  ·rename_i h1 h2;exact⟨fun _=>by grind,fun _=>by omega⟩
theorem Rz.num (h0: -9223372036854775808≤n) (h1:n≤9223372036854775807):Rz 3 (n:Rat):=d6 (dY (by decide) h0 h1) (by decide)
def zc (b c:Rat):Rat:=if b=0 then 0 else c
def Mm (b1 b2 c:Rat):Rat:=if b1=0∧b2=0 then 0 else c
theorem Fh (h:b=0):zc b c=0:=by unfold zc;rw[if_pos h]
theorem pe (h:b≠0):zc b c=c:=by unfold zc;rw[if_neg h]
theorem KC (h:b1=0) (h2:b2=0):Mm b1 b2 c=0:=by unfold Mm;rw[if_pos ⟨h,h2⟩]
theorem RF (h:b1≠0):Mm b1 b2 c=c:=by unfold Mm;rw[if_neg (fun e=>h e.1)]
theorem Jv (h:b2≠0):Mm b1 b2 c=c:=by unfold Mm;rw[if_neg (fun e=>h e.2)]
theorem qT (h:(aJ x 0==0)=true):x=0:=FI h
theorem pf (h:(aJ x 0==0)=false):x≠0:=fun e=>by rw[ng.2 e] at h;cases h
theorem HJ (h:(aJ x y !=0)=true):x≠y:=fun e=>by rw[ng.2 e] at h;cases h
theorem Lx:(0:Rat)=((0:Int):Rat):=rfl
def Vq (b1 c1 b2 c2:Rat):Prop:=b1≠0∧b2≠0∧c1≠c2
def cc (b1 c1 c2:Rat):Rat:=if b1=0 then c2 else c1
theorem Fv (h:b1=0):cc b1 c1 c2=c2:=by unfold cc;rw[if_pos h]
theorem Ap (h:b1≠0):cc b1 c1 c2=c1:=by unfold cc;rw[if_neg h]
def uE (b1 b2 c:Rat):Bool:=if b1=0∧b2=0 then decide (c=0) else decide (0<c)&& !jd c
theorem abn:(aJ x 0==0)=decide (x=0):=by rw[xK,beq_iff_eq,decide_eq_true_eq,ng]
theorem VJ:decide (aJ x 0>0)=decide (0<x):=by rw[xK,decide_eq_true_eq,decide_eq_true_eq];exact y7
theorem ZK (h:(aJ b1 0==0)=true) (h2:(aJ b2 0==0)=true):uE b1 b2 c=(aJ c 0==0):=by
 unfold uE;rw[if_pos ⟨qT h,qT h2⟩,abn]
theorem Vd (h:(aJ b1 0==0)=false):uE b1 b2 c=(decide (aJ c 0>0)&& !jd c):=by
 unfold uE;rw[if_neg (fun e=>pf h e.1),VJ]
theorem UY (h:(aJ b2 0==0)=false):uE b1 b2 c=(decide (aJ c 0>0)&& !jd c):=by
 unfold uE;rw[if_neg (fun e=>pf h e.2),VJ]
def zP:List CellD:=[.b false,.s 0 [],.b false,.s 0 [],.b false,.s 0 [],.b false,.s 0 [],.b false,.s 0 [],.b false,.s 0 [],.b false,.s 0 [],.b false,.s 0 [],.b false,.s 0 [],.b false,.s 0 []]
theorem Tr {x y:Int}(hx:Sz 5000000 x) (hy:Sz 5000000 y):Ok Tryz.prog 21 [dQ x y] [.c (.b (vQ x y))]:=by
 have hx1:Sz 10000000 x:=hx.m_
 have hy1:Sz 10000000 y:=hy.m_
 refine ca Tryz.func21 rfl ?_
 refine ac rfl (Im (by assumption)) ?_
 refine ar (bz rfl) ?_
 refine ac rfl (Im (by assumption)) ?_
 refine ar (bz rfl) ?_
 refine ac rfl (yC) ?_
 refine dD rfl (fun hc1=>?_) (fun hc1=>?_)
 ·refine ah ?_
  rw[Zm hc1]
  exact az ae
 ·have hgc:Sz 100000000 ((Int.gcd x y:Nat):Int):=(Sz.gcd (x:=x) hy (aaU hc1)).m_
  refine ac rfl (FT (eh hx) (eh hy))<|ac rfl (HM)<|ac rfl (yb (Rx) (eh (dY (k:=3) (by decide) (by decide) (by decide))))<|ah ?_
  rw[ZA hc1]
  exact az ae
theorem kH (hx:Rz 5000000 x):Ok Tryz.prog 21 [dR x] [.c (.b true)]:=by
 have:=Tr hx.n hx.d
 rw[ZV] at this;exact this
theorem sx:Ok Tryz.prog 317 [] [dR 0]:=by
 refine ca Tryz.func317 rfl<|ac rfl (fY (by omega) (by omega)) ?_
 refine ah ?_
 rw[Lx]
 exact aV bF rfl ae
theorem Dd:Ok Tryz.prog 230 [dR a,dR b,dR c] [.a ((cR a++cR b++cR (zc b c)))]:=by
 refine ca Tryz.func230 rfl<|ac rfl (jZ) ?_
 refine dD rfl (fun hc1=>?_) (fun hc1=>?_)
 ·refine ac rfl (sx) ?_
  refine ar (aM (us:=(cR a++cR b++cR 0)) m9 lh rfl rfl rfl) ?_
  refine ah ?_
  rw[Fh (qT hc1)]
  exact aV dh rfl ae
 ·refine ar (aM (us:=(cR a++cR b++cR c)) m9 lh rfl rfl rfl) ?_
  refine ah ?_
  rw[pe (pf hc1)]
  exact aV dh rfl ae
theorem p6:Ok Tryz.prog 127 [.a ((cR a1++cR b1++cR a2++cR b2++cR c))] [.a ((cR a1++cR b1++cR (zc b1 c)))]:=by
 refine ca Tryz.func127 rfl<|ac rfl (Dd) ?_
 exact ah (aV dh rfl ae)
theorem I1:Ok Tryz.prog 140 [.a ((cR a1++cR b1++cR a2++cR b2++cR c))] [.a ((cR a2++cR b2++cR (zc b2 c)))]:=by
 refine ca Tryz.func140 rfl<|ac rfl (Dd) ?_
 exact ah (aV dh rfl ae)
theorem tI:Ok Tryz.prog 235 [.a ((cR a1++cR b1++cR a2++cR b2++cR c))] [.a ((cR a1++cR b1++cR a2++cR b2++cR (Mm b1 b2 c)))]:=by
 refine ca Tryz.func235 rfl<|ac rfl (jZ) ?_
 refine jT (bz rfl) (fun c1 hb1=>?_)
 cases c1
 ·refine qQ rfl<|ah ?_
  rw[RF (pf hb1)]
  exact aV bv rfl ae
 ·refine ac rfl (jZ) ?_
  refine dD rfl (fun hc2=>?_) (fun hc2=>?_)
  ·refine ac rfl (sx) ?_
   refine re (bd (us:=(cR a1++cR b1++cR a2++cR b2++cR 0)) bF rfl rfl rfl rfl (fP rfl) rfl rfl) ?_
   refine ah ?_
   rw[KC (qT hb1) (qT hc2)]
   exact aV bv rfl ae
  ·refine ah ?_
   rw[Jv (pf hc2)]
   exact aV bv rfl ae
theorem SU:Ok Tryz.prog 300 [.a ((cR v++cR w))] [.a ((cR v++cR 0++cR w++cR 0++cR 0))]:=by
 refine eH Tryz.func300 11 [.cell 2 47] rfl<|aa<|ag<|aa<|ln 8 rfl rfl<|dt 1<|bD (js (cR v) bF rfl)<|bD (cj rfl (sx))<|dt 1<|bD (js (cR w) bF rfl)<|bD (cj rfl (sx))<|bD (cj rfl (sx))<|bD (aM (us:=(cR v++cR 0++cR w++cR 0++cR 0)) Dn yY rfl rfl rfl) ?_
 refine jY<|dk<|ex<|aZ ?_
 exact ah (aV bv rfl ae)
theorem wh:Ok Tryz.prog 77 [] [dR 0]:=by
 refine ca Tryz.func77 rfl<|ac rfl (dG (by omega) (by omega)) ?_
 refine ah ?_
 rw[Lx]
 exact aV bF rfl ae
theorem D4:Ok Tryz.prog 286 [] [dR 0]:=by
 refine ca Tryz.func286 rfl<|ac rfl (dG (by omega) (by omega)) ?_
 refine ah ?_
 rw[Lx]
 exact aV bF rfl ae
theorem fh:Ok Tryz.prog 190 [dR a] [.a ((cR a++cR 0++cR 0))]:=by
 refine ca Tryz.func190 rfl<|cT 4 [] ?_
 refine aK rfl (D4) ?_
 refine aK rfl (D4) ?_
 refine aq (aM (us:=(cR a++cR 0++cR 0)) m9 lh rfl rfl rfl) ?_
 exact ah (aV dh rfl ae)
theorem BE:Ok Tryz.prog 272 [dR a,dR b,dR c] [.a ((cR a++cR b++cR (zc b c)))]:=by
 refine ca Tryz.func272 rfl<|ac rfl (gW) ?_
 refine dD rfl (fun hc1=>?_) (fun hc1=>?_)
 ·refine ac rfl (fh) ?_
  have e:=qT hc1
  subst e
  refine ah ?_
  rw[Fh rfl]
  exact aV dh rfl ae
 ·refine ar (aM (us:=(cR a++cR b++cR c)) m9 lh rfl rfl rfl) ?_
  refine ah ?_
  rw[pe (pf hc1)]
  exact aV dh rfl ae
theorem pc:Ok Tryz.prog 149 [.a ((cR a1++cR b1++cR a2++cR b2++cR c))] [.a ((cR a1++cR b1++cR (zc b1 c)))]:=by
 refine ca Tryz.func149 rfl<|ac rfl (BE) ?_
 exact ah (aV dh rfl ae)
theorem Fa:Ok Tryz.prog 150 [.a ((cR a1++cR b1++cR a2++cR b2++cR c))] [.a ((cR a2++cR b2++cR (zc b2 c)))]:=by
 refine ca Tryz.func150 rfl<|ac rfl (BE) ?_
 exact ah (aV dh rfl ae)
theorem kX:Ok Tryz.prog 340 [dR a1,dR b1,dR a2,dR b2,dR c] [.a ((cR a1++cR b1++cR a2++cR b2++cR (Mm b1 b2 c)))]:=by
 refine eH Tryz.func340 26 [.cell 10 47] rfl<|aa<|ag<|aa<|aa<|ag ?_
 refine ac rfl (gW) ?_
 refine jT (bz rfl) (fun c1 hb1=>?_)
 cases c1
 ·refine a8 rfl<|aA<|aa<|bg<|bK 5<|aR (aM (us:=(cR a1++cR b1++cR a2++cR b2++cR c)) Dn yY rfl rfl rfl) ?_
  refine ex<|aZ ?_
  rw[RF (pf hb1)]
  exact ah (aV bv rfl ae)
 ·refine ac rfl (gW) ?_
  refine aI rfl (fun hc2=>?_) (fun hc2=>?_)
  ·refine ag<|ac rfl (wh) ?_
   refine aa<|bg<|bK 5 ?_
   refine aR (aM (us:=(cR a1++cR b1++cR a2++cR b2++cR 0)) Dn yY rfl rfl rfl) ?_
   refine ex<|aZ ?_
   rw[KC (qT hb1) (qT hc2)]
   exact ah (aV bv rfl ae)
  ·refine aA<|aa<|bg<|bK 5<|aR (aM (us:=(cR a1++cR b1++cR a2++cR b2++cR c)) Dn yY rfl rfl rfl) ?_
   refine ex<|aZ ?_
   rw[Jv (pf hc2)]
   exact ah (aV bv rfl ae)
theorem Bq:Ok Tryz.prog 23 [.a ((cR v++cR w))] [.a ((cR v++cR 0++cR w++cR 0++cR 0))]:=by
 refine eH Tryz.func23 11 [.cell 2 47] rfl<|aa<|ag<|aa<|ln 8 rfl rfl<|dt 1<|bD (js (cR v) bF rfl)<|bD (cj rfl (wh))<|dt 1<|bD (js (cR w) bF rfl)<|bD (cj rfl (wh))<|bD (cj rfl (wh))<|bD (aM (us:=(cR v++cR 0++cR w++cR 0++cR 0)) Dn yY rfl rfl rfl) ?_
 refine jY<|dk<|ex<|aZ ?_
 exact ah (aV bv rfl ae)
def xy (x:Int):Bool:=decide (-9223372036854775808≤x)&&decide (x≤9223372036854775807)
theorem XO {x:Int}(h:x< -9223372036854775808):xy x=false:=by unfold xy;rw[decide_eq_false (by omega)];rfl
theorem V8 {x:Int}(h:9223372036854775807<x):xy x=false:=by unfold xy;rw[decide_eq_false (p:=x≤9223372036854775807) (by omega),oK]
theorem PD {x:Int}(h: ¬x< -9223372036854775808) (h2: ¬9223372036854775807<x):xy x=true:=by unfold xy;rw[decide_eq_true (by omega),decide_eq_true (by omega)];rfl
theorem So {x:Int}:xy x=true↔ -9223372036854775808≤x∧x≤9223372036854775807:=by unfold xy;simp
theorem XC (h0:1≤r) (h1:r≤9223372036854775808):IntKind.u64.wrap (0-r)=18446744073709551616-r:=by unfold IntKind.wrap;simp[IntKind.bits,IntKind.signed];omega
theorem YO (h0:1≤r) (h1:r≤9223372036854775808):IntKind.i64.wrap (18446744073709551616-r)= -r:=by unfold IntKind.wrap;simp[IntKind.bits,IntKind.signed];omega
theorem wX [Decidable p] (h:decide p=true):p:=by simpa using h
theorem pr [Decidable p] (h:decide p=false): ¬p:=by simpa using h
theorem fA {b:Bool}(h:(!b)=false):b=true:=by simpa using h
theorem jN {b:Bool}(h:(!b)=true):b=false:=by simpa using h
def wS (lo hi:Int):Bool:=decide (-2305843009213693952≤lo)&&decide (hi≤2305843009213693952)
theorem ZU (h:lo< -2305843009213693952):wS lo hi=false:=by unfold wS;rw[decide_eq_false (by omega)];rfl
theorem abw (h:hi>2305843009213693952):wS lo hi=false:=by unfold wS;rw[decide_eq_false (p:=hi≤2305843009213693952) (by omega),oK]
theorem Vg (h: ¬lo< -2305843009213693952) (h2: ¬hi>2305843009213693952):wS lo hi=true:=by unfold wS;rw[decide_eq_true (by omega),decide_eq_true (by omega)];rfl
def jB (a:Rat):Int:=(a*((65536:Int):Rat)).num.fdiv ((a*((65536:Int):Rat)).den:Int)
def jk (a:Rat):Int:= -((-(a*((65536:Int):Rat))).num.fdiv ((-(a*((65536:Int):Rat))).den:Int))
def jj (a:Rat):Bool:=xy (jB a)&&(xy (jk a)&&wS (jB a) (jk a))
theorem At {x:Int}(hx:Sz 100000000 x):Ok Tryz.prog 322 [dI x] [.c (.i .i64 (if xy x then x else 0)),.c (.b (xy x))]:=by
 refine eH Tryz.func322 39 [.tmp 2,.tmp 3] rfl<|aa<|ag<|aa<|aa<|dJ 10 [] ?_
 refine aK rfl (jh (by omega) (by omega))<|aK rfl (pI) ?_
 refine AF (bz rfl) (fun c1 hb1=>?_)
 cases c1
 ·refine aK rfl (jh (by omega) (by omega))<|aK rfl (pI) ?_
  refine aI rfl (fun hc2=>?_) (fun hc2=>?_)
  ·refine aa<|ag<|aZ ?_
   rw[V8 (ab8 hc2),if_neg (by decide)]
   exact ah (az (az ae))
  ·have hlo:=Yn hb1
   have hhi:=acy hc2
   have hln:=ii hx
   refine aA<|aa<|ag<|aa<|aa<|ag ?_
   refine ar (ci ((((du x.natAbs).length:Int))-1) (bO (by(first|omega|(simp;omega))) (by(first|omega|(simp;omega)))) rfl) ?_
   refine aB<|bh (ι:={t:Nat×Int // ShInv (du x.natAbs) t.1 t.2}) (fun i=>⟨39,[(1,.p 1 0),(4,.v (.c (.i .u64 i.1.2))),(5,.v (.c (.i .i64 ((i.1.1:Int)-1))))],[(1,36,cI x)]⟩) (fun i=>i.1.1) ⟨((du x.natAbs).length,0),⟨Nat.le_refl _,nH 0,by rw[lJ];simp⟩⟩ (ao ⟨rfl,rfl,rfl,trivial⟩ ⟨rfl,trivial⟩ rfl) ?_
   rintro⟨⟨j,r⟩,hI⟩
   replace hI:ShInv (du x.natAbs) j r:=hI
   have g5:=hI.le
   have g3:=hI.r0
   have g4:=hI.bound (b8 _)
   rw[cz] at g4
   dsimp only
   refine aa<|aa<|ag ?_
   refine aI rfl (fun hc3=>?_) (fun hc3=>?_)
   ·obtain⟨q,rfl⟩: ∃q,j=q+1:=⟨j-1,by have:=wX hc3;omega⟩
    have hS:=hI.step (b8 _)
    have hB:=hS.bound (b8 _)
    have g1:=di (b8 x.natAbs) q
    rw[cz] at hB
    refine lj (σ':=⟨39,[(1,.p 1 0),(4,.v (.c (.i .u64 r))),(5,.v (.c (.i .i64 (q:Int))))],[(1,36,cI x)]⟩) (ao ⟨rfl,rfl,by rw[show(q:Int)=((q+1:Nat):Int)-1 from by omega];rfl,trivial⟩ ⟨rfl,trivial⟩ rfl) ?_
    refine aA<|aa<|aB<|ag ?_
    refine ar (ci (r*1000000000) (iA (by(first|omega|(simp;omega))) (by(first|omega|(simp;omega)))) rfl) ?_
    refine ar (bH ju rfl rfl (by(first|omega|(simp;omega))) (jx _) rfl rfl) ?_
    refine ar (b5 fF rfl (lk (i:=q) (by(first|omega|(simp;omega)))) rfl) ?_
    refine ar (b6 (r:=(du x.natAbs).getD q 0) jH fM rfl (iB (by(first|omega|(simp;omega))) (by(first|omega|(simp;omega)))) rfl) ?_
    refine ar (ci ((r*1000000000)+((du x.natAbs).getD q 0)) (fW (by(first|omega|(simp;omega))) (by(first|omega|(simp;omega)))) rfl) ?_
    refine ag ?_
    refine ar (ci ((q:Int)-1) (bO (by(first|omega|(simp;omega))) (by(first|omega|(simp;omega)))) rfl) ?_
    exact⟨⟨(q,r*1000000000+(du x.natAbs).getD q 0),hS⟩,ao ⟨rfl,rfl,rfl,trivial⟩ ⟨rfl,trivial⟩ rfl,by show q<q+1;omega⟩
   ·have hz:j=0:=by have:=pr hc3;omega
    have hfin:(x.natAbs:Int)=r:=by subst hz;have:=hI.v;rw[cz] at this;simp[val,tS] at this;omega
    refine a7<|aa<|aa<|ag ?_
    refine aI rfl (fun hc4=>?_) (fun hc4=>?_)
    ·have hn:=wX hc4
     refine ag<|ar (gl (r:=18446744073709551616-r) rfl (XC (by omega) (by omega)) rfl) ?_
     refine aa<|ag<|ar (b6 (r:=x) fM AT rfl (by rw[YO (by omega) (by omega)];omega) rfl) ?_
     refine aZ ?_
     rw[PD hlo hhi,if_pos rfl]
     exact ah (az (az ae))
    ·have hn:=pr hc4
     refine aA<|aa<|ag<|ar (b6 (r:=x) fM AT rfl (by rw[←hfin];rw[qN (by omega) (by omega)];omega) rfl) ?_
     refine aZ ?_
     rw[PD hlo hhi,if_pos rfl]
     exact ah (az (az ae))
 ·refine df rfl<|aa<|ag<|aZ ?_
  rw[XO (WY hb1),if_neg (by decide)]
  exact ah (az (az ae))
theorem tJ {x y:Int}:Ok Tryz.prog 324 [.c (.i .i64 x),.c (.i .i64 y)] [.a (([.i .i64 (if wS x y then x else 0)]++[.i .i64 (if wS x y then y else 0)])),.c (.b (wS x y))]:=by
 refine ca Tryz.func324 rfl ?_
 refine jT (bz rfl) (fun c1 hb1=>?_)
 cases c1
 ·refine dD rfl (fun hc2=>?_) (fun hc2=>?_)
  ·refine ar (aM (us:=([.i .i64 0]++[.i .i64 0])) qZ qr rfl rfl rfl) ?_
   refine ah ?_
   rw[abw (wX hc2),if_neg (by decide),if_neg (by decide)]
   exact aV jV rfl (az ae)
  ·refine ar (aM (us:=([.i .i64 x]++[.i .i64 y])) qZ qr rfl rfl rfl) ?_
   refine ah ?_
   rw[Vg (pr hb1) (pr hc2),if_pos rfl,if_pos rfl]
   exact aV jV rfl (az ae)
 ·refine tg rfl<|ar (aM (us:=([.i .i64 0]++[.i .i64 0])) qZ qr rfl rfl rfl) ?_
  refine ah ?_
  rw[ZU (wX hb1),if_neg (by decide),if_neg (by decide)]
  exact aV jV rfl (az ae)
def rR (s t c:Int):Int:=if t=0∨s=t then s else if s=0 then t else s*c
def bo (a b m:Rat):Int:=rR (aJ a 0) (aJ b 0*aJ m 0) (aJ (a*a) (b*b*m))
def DS (A B C D M N:Rat):Rat:=A*A+B*B*M-N*(C*C+D*D*M)
def xb (A B C D N:Rat):Rat:=A*B-N*(C*D)
def f6 (A B C D M N:Rat):Int:=if M<0∨N<0 then 0 else rR (bo A B M) (bo C D M*aJ N 0) (bo (DS A B C D M N) (xb A B C D N+xb A B C D N) M)
theorem yT {c:Int}(h:(s==0)=true):rR s t c=t:=by
 unfold rR
 grind
theorem yE {c:Int}(h:(t==0)=true):rR s t c=s:=by
 have h:t=0:=by grind
 unfold rR;rw[if_pos (.inl h)]
theorem yS {c:Int}(h:(s==t)=true):rR s t c=s:=by
 have h:s=t:=by grind
 unfold rR;rw[if_pos (.inr h)]
theorem yp {c:Int}(h1:(s==0)=false) (h2:(t==0)=false) (h3:(s==t)=false):rR s t c=s*c:=by
 have h1:s≠0:=by grind
 have h2:t≠0:=by grind
 have h3:s≠t:=by grind
 unfold rR;rw[if_neg (by omega),if_neg h1]
theorem dZ (x y:Rat): -1≤aJ x y∧aJ x y≤1:=by
 unfold aJ
 split
 ·omega
 ·split<;>omega
theorem jO (h: -1≤s∧s≤1) (h': -1≤t∧t≤1): -1≤s*t∧s*t≤1:=by
 have hs:s= -1∨s=0∨s=1:=by omega
 grind
theorem LF {c:Int}(h: -1≤s∧s≤1) (h': -1≤t∧t≤1) (h2: -1≤c∧c≤1): -1≤rR s t c∧rR s t c≤1:=by
 unfold rR
 split
 ·exact h
 ·split
  ·grind
  ·exact jO h h2
theorem ix (a b m:Rat): -1≤bo a b m∧bo a b m≤1:=LF (dZ _ _) (jO (dZ _ _) (dZ _ _)) (dZ _ _)
theorem FV (h:decide (aJ x 0<0)=true):x<0:=H8.1 (by simpa using h)
theorem Db (h:decide (aJ x 0<0)=false): ¬x<0:=fun e=>by have:=H8.2 e;simp at h;omega
theorem Lu {B:Rat}(h:M<0∨N<0):f6 A B C D M N=0:=by unfold f6;rw[if_pos h]
theorem wL {B:Rat}(h: ¬M<0) (h': ¬N<0):f6 A B C D M N=rR (bo A B M) (bo C D M*aJ N 0) (bo (DS A B C D M N) (xb A B C D N+xb A B C D N) M):=by
 unfold f6;rw[if_neg (fun e=>e.elim h h')]
theorem qm {m:Rat}(ha:Rz 2000000 a) (hb:Rz 2000000 b) (hm:Rz 2000000 m):Ok Tryz.prog 254 [dR a,dR b,dR m] [.c (.i .i64 (bo a b m))]:=by
 have ka:Rz 6000000 a:=ha.m_
 have kb:Rz 6000000 b:=hb.m_
 have hp:=jO (dZ b 0) (dZ m 0)
 have hp2:=jO (dZ a 0) (dZ (a*a) (b*b*m))
 refine ca Tryz.func254 rfl<|cT 9 [] ?_
 refine aK rfl (cH) ?_
 refine aK rfl (cH) ?_
 refine aK rfl (cH) ?_
 refine aq (ci ((aJ b 0)*(aJ m 0)) (fU (by omega) (by omega)) rfl) ?_
 refine jT (bz rfl) (fun c1 hb1=>?_)
 cases c1
 ·refine dD rfl (fun hc2=>?_) (fun hc2=>?_)
  ·refine ah ?_
   unfold bo
   rw[yS hc2]
   exact az ae
  ·refine dD rfl (fun hc3=>?_) (fun hc3=>?_)
   ·refine ah ?_
    unfold bo
    rw[yT hc3]
    exact az ae
   ·refine cT 12 [] ?_
    refine aK rfl (cW (aQ ha) (aQ ha)) ?_
    refine aK rfl (cW (aQ hb) (aQ hb)) ?_
    refine aK rfl (cW (aQ (aO hb hb)) (aQ hm)) ?_
    refine aK rfl (lF (aQ (aO ha ha)) (aQ (aO (aO hb hb) hm))) ?_
    refine aq (ci ((aJ a 0)*(aJ (a*a) ((b*b)*m))) (fU (by omega) (by omega)) rfl)<|ah ?_
    unfold bo
    rw[yp hc3 hb1 hc2]
    exact az ae
 ·refine tg rfl<|ah ?_
  unfold bo
  rw[yE hb1]
  exact az ae
theorem vL {m:Rat}(ha:Rz 2000000 a) (hb:Rz 2000000 b) (hm:Rz 2000000 m):Ok Tryz.prog 182 [dR a,dR b,dR m] [.c (.i .i64 (bo a b m))]:=by
 have ka:Rz 6000000 a:=ha.m_
 have kb:Rz 6000000 b:=hb.m_
 have hp:=jO (dZ b 0) (dZ m 0)
 have hp2:=jO (dZ a 0) (dZ (a*a) (b*b*m))
 refine ca Tryz.func182 rfl<|cT 9 [] ?_
 refine aK rfl (dj) ?_
 refine aK rfl (dj) ?_
 refine aK rfl (dj) ?_
 refine aq (ci ((aJ b 0)*(aJ m 0)) (fU (by omega) (by omega)) rfl) ?_
 refine jT (bz rfl) (fun c1 hb1=>?_)
 cases c1
 ·refine jT (bz rfl) (fun c2 hb2=>?_)
  cases c2
  ·refine dD rfl (fun hc3=>?_) (fun hc3=>?_)
   ·refine dD rfl (fun hc4=>?_) (fun hc4=>?_)
    ·exact absurd hc4 (by rw[hb1];decide)
    ·refine ah ?_
     unfold bo
     rw[yS hc3]
     exact az ae
   ·refine cT 12 [] ?_
    refine aK rfl (ck (aQ ha) (aQ ha)) ?_
    refine aK rfl (ck (aQ hb) (aQ hb)) ?_
    refine aK rfl (ck (aQ (aO hb hb)) (aQ hm)) ?_
    refine aK rfl (jF (aQ (aO ha ha)) (aQ (aO (aO hb hb) hm))) ?_
    refine aq (ci ((aJ a 0)*(aJ (a*a) ((b*b)*m))) (fU (by omega) (by omega)) rfl)<|ah ?_
    unfold bo
    rw[yp hb1 hb2 hc3]
    exact az ae
  ·refine tg rfl ?_
   refine dD rfl (fun hc5=>?_) (fun hc5=>?_)
   ·exact absurd hc5 (by rw[hb1];decide)
   ·refine ah ?_
    unfold bo
    rw[yE hb2]
    exact az ae
 ·refine ar (bz rfl)<|tg rfl ?_
  refine dD rfl (fun hc6=>?_) (fun hc6=>?_)
  ·refine ah ?_
   unfold bo
   rw[yT hb1]
   exact az ae
  ·exact absurd hb1 (by rw[hc6];decide)
theorem No {B:Rat}(hA:Rz 160000 A) (hB:Rz 160000 B) (hC:Rz 160000 C) (hD:Rz 160000 D) (hM:Rz 160000 M) (hN:Rz 160000 N):Ok Tryz.prog 157 [.a ((cR A++cR B++cR C++cR D++cR M++cR N))] [.c (.i .i64 (f6 A B C D M N))]:=by
 have z1:=jO (ix C D M) (dZ N 0)
 have z2:=jO (ix A B M) (ix (A*A+B*B*M-N*(C*C+D*D*M)) ((A*B-N*(C*D))+(A*B-N*(C*D))) M)
 refine ca Tryz.func157 rfl ?_
 refine ac rfl (dj) ?_
 refine jT (bz rfl) (fun c1 hb1=>?_)
 cases c1
 ·have n1:=Db hb1
  refine ac rfl (dj) ?_
  refine dD rfl (fun hc2=>?_) (fun hc2=>?_)
  ·refine ah ?_
   rw[Lu (.inr (FV hc2))]
   exact az ae
  ·have n2:=Db hc2
   refine cT 20 [] ?_
   refine aK rfl (vL (aQ hA) (aQ hB) (aQ hM)) ?_
   refine aK rfl (vL (aQ hC) (aQ hD) (aQ hM)) ?_
   refine aK rfl (dj) ?_
   refine aq (ci ((bo C D M)*(aJ N 0)) (fU (by omega) (by omega)) rfl) ?_
   refine jT (bz rfl) (fun c3 hb3=>?_)
   cases c3
   ·refine jT (bz rfl) (fun c4 hb4=>?_)
    cases c4
    ·refine dD rfl (fun hc5=>?_) (fun hc5=>?_)
     ·refine dD rfl (fun hc6=>?_) (fun hc6=>?_)
      ·exact absurd hc6 (by rw[hb3];decide)
      ·refine ah ?_
       rw[wL n1 n2,yS hc5]
       exact az ae
     ·refine cT 18 [] ?_
      refine aK rfl (ck (aQ hC) (aQ hC)) ?_
      refine aK rfl (ck (aQ hD) (aQ hD)) ?_
      refine aK rfl (ck (aQ (aO hD hD)) (aQ hM)) ?_
      refine aK rfl (cn (aQ (aO hC hC)) (aQ (aO (aO hD hD) hM))) ?_
      refine aK rfl (ck (aQ hN) (aQ (gD (aO hC hC) (aO (aO hD hD) hM))))<|cT 17 [] ?_
      refine aK rfl (ck (aQ hA) (aQ hA)) ?_
      refine aK rfl (ck (aQ hB) (aQ hB)) ?_
      refine aK rfl (ck (aQ (aO hB hB)) (aQ hM)) ?_
      refine aK rfl (cn (aQ (aO hA hA)) (aQ (aO (aO hB hB) hM))) ?_
      refine aK rfl (fi (aQ (gD (aO hA hA) (aO (aO hB hB) hM))) (aQ (aO hN (gD (aO hC hC) (aO (aO hD hD) hM)))))<|cT 15 [] ?_
      refine aK rfl (ck (aQ hA) (aQ hB)) ?_
      refine aK rfl (ck (aQ hC) (aQ hD))<|aK rfl (ck (aQ hN) (aQ (aO hC hD)))<|aK rfl (fi (aQ (aO hA hB)) (aQ (aO hN (aO hC hD))))<|cT 10 [] ?_
      refine aK rfl (cn (aQ (dd (aO hA hB) (aO hN (aO hC hD)))) (aQ (dd (aO hA hB) (aO hN (aO hC hD))))) ?_
      refine aK rfl (vL (aQ (dd (gD (aO hA hA) (aO (aO hB hB) hM)) (aO hN (gD (aO hC hC) (aO (aO hD hD) hM))))) (aQ (gD (dd (aO hA hB) (aO hN (aO hC hD))) (dd (aO hA hB) (aO hN (aO hC hD))))) (aQ hM)) ?_
      refine aq (ci ((bo A B M)*(bo (((A*A)+((B*B)*M))-(N*((C*C)+((D*D)*M)))) (((A*B)-(N*(C*D)))+((A*B)-(N*(C*D)))) M)) (fU (by omega) (by omega)) rfl)<|ah ?_
      rw[wL n1 n2,yp hb3 hb4 hc5]
      exact az ae
    ·refine tg rfl ?_
     refine dD rfl (fun hc7=>?_) (fun hc7=>?_)
     ·exact absurd hc7 (by rw[hb3];decide)
     ·refine ah ?_
      rw[wL n1 n2,yE hb4]
      exact az ae
   ·refine ar (bz rfl)<|tg rfl ?_
    refine dD rfl (fun hc8=>?_) (fun hc8=>?_)
    ·refine ah ?_
     rw[wL n1 n2,yT hb3]
     exact az ae
    ·exact absurd hb3 (by rw[hc8];decide)
 ·refine tg rfl<|ah ?_
  rw[Lu (.inl (FV hb1))]
  exact az ae
theorem N2 (ha:Rz 6000000 a) (_hb:Rz 6000000 b) (hd:Rz 6000000 d) (he:Rz 6000000 e):Ok Tryz.prog 181 [.a ((cR a++cR b++cR c)),.a ((cR d++cR e++cR f))] [.a ((cR (a-d)++cR b++cR (-e)++cR 0++cR c++cR f))]:=by
 refine eH Tryz.func181 21 [.cell 4 186] rfl<|aa<|ag<|aa<|ln 16 rfl rfl<|dt 1<|bD (js (cR a) bF rfl)<|dt 1<|bD (js (cR d) bF rfl)<|bD (cj rfl (fi (aQ ha) (aQ hd)))<|dt 1<|bD (js (cR b) bF rfl)<|dt 1<|bD (js (cR e) bF rfl) ?_
 refine bD (cj rfl (lX (aQ he)))<|bD (cj rfl ((show Ok Tryz.prog 18 [.c (.i .i64 0)] [dR 0] from eu (by omega) (by omega))))<|dt 1<|bD (js (cR c) bF rfl)<|dt 1<|bD (js (cR f) bF rfl)<|bD (aM (us:=(cR (a-d)++cR b++cR (-e)++cR 0++cR c++cR f)) U5 Q6 rfl rfl rfl) ?_
 refine jY<|dk<|ex<|aZ ?_
 exact ah (aV V4 rfl ae)
theorem ya (ha:Rz 60000 a) (hb:Rz 60000 b) (hc:Rz 60000 c) (hd:Rz 60000 d) (he:Rz 60000 e) (hf:Rz 60000 f):Ok Tryz.prog 83 [.a ((cR a++cR b++cR c)),.a ((cR d++cR e++cR f))] [.c (.i .i64 (f6 (a-d) b (-e) 0 c f))]:=by
 have ka:Rz 6000000 a:=ha.m_
 have ma:Rz 160000 a:=ha.m_
 have kb:Rz 6000000 b:=hb.m_
 have mb:Rz 160000 b:=hb.m_
 have kc:Rz 6000000 c:=hc.m_
 have mc:Rz 160000 c:=hc.m_
 have kd:Rz 6000000 d:=hd.m_
 have md:Rz 160000 d:=hd.m_
 have ke:Rz 6000000 e:=he.m_
 have me:Rz 160000 e:=he.m_
 have kf:Rz 6000000 f:=hf.m_
 have mf:Rz 160000 f:=hf.m_
 have m1:Rz 160000 (a-d):=(ha.sub hd).m_
 have m2:Rz 160000 (-e):=me.neg
 have m0:Rz 160000 (0:Rat):=d6 (n:=0) (dY (by decide) (by decide) (by decide)) (by decide)
 refine ca Tryz.func83 rfl ?_
 refine ac rfl (N2 (by assumption) (by assumption) (by assumption) (by assumption)) ?_
 refine ac rfl (No (by assumption) (by assumption) (by assumption) (by assumption) (by assumption) (by assumption)) ?_
 exact ah (az ae)
theorem uM (ha:Rz 6000000 a):Ok Tryz.prog 333 [dR a] [dR a]:=by
 refine ca Tryz.func333 rfl<|ac rfl (dS (aQ ha))<|ac rfl (dS (aQ (oC ha))) ?_
 have hfin:dR a=dR (-(-a)):=by rw[Rat.neg_neg]
 refine ah ?_
 rw[hfin]
 exact aV bF rfl ae
theorem If (ha:Rz 6000000 a) (hb:Rz 6000000 b) (hc:Rz 6000000 c) (hd:Rz 6000000 d) (he:Rz 6000000 e) (hf:Rz 6000000 f):Ok Tryz.prog 256 [.a ((cR a++cR b++cR c)),.a ((cR d++cR e++cR f))] [.a ((cR (a-d)++cR b++cR (-e)++cR 0++cR c++cR f))]:=by
 refine eH Tryz.func256 24 [.cell 4 186] rfl<|aa<|ag<|aa<|ln 19 rfl rfl<|dt 1<|bD (js (cR a) bF rfl)<|dt 1<|bD (js (cR d) bF rfl)<|bD (cj rfl (fp (aQ ha) (aQ hd)))<|dt 1<|bD (js (cR b) bF rfl)<|bD (cj rfl (uM (aQ hb)))<|dt 1 ?_
 refine bD (js (cR e) bF rfl)<|bD (cj rfl (dS (aQ he)))<|bD (cj rfl ((show Ok Tryz.prog 70 [.c (.i .i64 0)] [dR 0] from iY (by omega) (by omega))))<|dt 1<|bD (js (cR c) bF rfl)<|bD (cj rfl (uM (aQ hc)))<|dt 1<|bD (js (cR f) bF rfl)<|bD (cj rfl (uM (aQ hf)))<|bD (aM (us:=(cR (a-d)++cR b++cR (-e)++cR 0++cR c++cR f)) U5 Q6 rfl rfl rfl) ?_
 refine jY<|dk<|ex<|aZ ?_
 exact ah (aV V4 rfl ae)
def rB (b c:Rat):Rat:=if b=0∨c=0 then 0 else b
def rC (b c:Rat):Rat:=if b=0∨c=0 then 0 else c
theorem TP (h:b=0∨c=0):rB b c=0:=by unfold rB;rw[if_pos h]
theorem TN (h:b=0∨c=0):rC b c=0:=by unfold rC;rw[if_pos h]
theorem aaV (h:b≠0) (h':c≠0):rB b c=b:=by unfold rB;rw[if_neg (fun e=>e.elim h h')]
theorem abV (h:b≠0) (h':c≠0):rC b c=c:=by unfold rC;rw[if_neg (fun e=>e.elim h h')]
def s3 (a b c:Rat):Int:=if aJ a 0=aJ b 0∨aJ b 0=0 then aJ a 0 else if aJ a 0=0 then aJ b 0 else if 0<a*a-b*b*c then aJ a 0 else aJ b 0
theorem abK (h:(aJ a 0==aJ b 0)=true):s3 a b c=aJ a 0:=by unfold s3;rw[if_pos (.inl (by simpa using h))]
theorem aaM (h:(aJ b 0==0)=true):s3 a b c=aJ a 0:=by unfold s3;rw[if_pos (.inr (by simpa using h))]
theorem Yt (h:(aJ a 0==aJ b 0)=false) (h2:(aJ b 0==0)=false):s3 a b c=if aJ a 0=0 then aJ b 0 else if 0<a*a-b*b*c then aJ a 0 else aJ b 0:=by
 unfold s3;rw[if_neg (fun e=>e.elim (by simpa using h) (by simpa using h2))]
theorem aca (h:decide (aJ x 0>0)=true):0<x:=y7.1 (by simpa using h)
theorem Z8 (h:decide (aJ x 0>0)=false): ¬0<x:=fun e=>by have:=y7.2 e;simp at h;omega
theorem acJ (h:(s==t)=true):s=t:=by simpa using h
theorem ZE (h:(s==t)=false):s≠t:=by simpa using h
theorem Yy (hf: ¬Vq b c e f) (h1:b≠0) (h2:e≠0):(aJ c f==0)=true:=by
 rw[r_eqb']
 exact f7 fun h=>hf ⟨h1,h2,h⟩
where
 r_eqb' {x y:Rat}:((aJ x y==0)=true)=(x=y):=by rw[beq_iff_eq];exact propext ng
theorem y5 (ha:Rz 6000000 a):Ok Tryz.prog 370 [dR a] [dR (a*a)]:=by
 refine ca Tryz.func370 rfl<|ac rfl (ck (aQ ha) (aQ ha)) ?_
 exact ah (aV bF rfl ae)
theorem JE (ha:Rz 1000000 a) (hb:Rz 1000000 b) (hc:Rz 1000000 c):Ok Tryz.prog 334 [.a ((cR a++cR b++cR c))] [dR (a*a-b*b*c)]:=by
 have ka:Rz 6000000 a:=ha.m_
 have kb:Rz 6000000 b:=hb.m_
 have kc:Rz 6000000 c:=hc.m_
 refine ca Tryz.func334 rfl<|cT 10 [] ?_
 refine aK rfl (y5 (aQ ha)) ?_
 refine aK rfl (y5 (aQ hb)) ?_
 refine aK rfl (ck (aQ (aO hb hb)) (aQ hc)) ?_
 refine aK rfl (fi (aQ (aO ha ha)) (aQ (aO (aO hb hb) hc))) ?_
 exact ah (aV bF rfl ae)
theorem Ct (ha:Rz 1000000 a) (hb:Rz 1000000 b) (hc:Rz 1000000 c):Ok Tryz.prog 266 [.a ((cR a++cR b++cR c))] [.c (.i .i64 (s3 a b c))]:=by
 refine ca Tryz.func266 rfl<|cT 8 [] ?_
 refine aK rfl (dj) ?_
 refine aK rfl (dj) ?_
 refine jT (bz rfl) (fun c1 hb1=>?_)
 cases c1
 ·refine dD rfl (fun hc2=>?_) (fun hc2=>?_)
  ·refine ah ?_
   rw[aaM hc2]
   exact az ae
  ·refine dD rfl (fun hc3=>?_) (fun hc3=>?_)
   ·refine ah ?_
    rw[Yt hb1 hc2,if_pos (acJ hc3)]
    exact az ae
   ·refine ac rfl (JE (by assumption) (by assumption) (by assumption))<|ac rfl (dj) ?_
    refine dD rfl (fun hc4=>?_) (fun hc4=>?_)
    ·refine ah ?_
     rw[Yt hb1 hc2,if_neg (ZE hc3),if_pos (aca hc4)]
     exact az ae
    ·refine ah ?_
     rw[Yt hb1 hc2,if_neg (ZE hc3),if_neg (Z8 hc4)]
     exact az ae
 ·refine tg rfl<|ah ?_
  rw[abK hb1]
  exact az ae
theorem tY:Ok Tryz.prog 191 [dR a,dR b,dR c] [.a ((cR a++cR (rB b c)++cR (rC b c)))]:=by
 refine ca Tryz.func191 rfl<|ac rfl (gW) ?_
 refine jT (bz rfl) (fun c1 hb1=>?_)
 cases c1
 ·refine ac rfl (gW) ?_
  refine dD rfl (fun hc2=>?_) (fun hc2=>?_)
  ·refine ac rfl (fh) ?_
   refine ah ?_
   rw[TP (.inr (qT hc2)),TN (.inr (qT hc2))]
   exact aV dh rfl ae
  ·refine ar (aM (us:=(cR a++cR b++cR c)) m9 lh rfl rfl rfl) ?_
   refine ah ?_
   rw[aaV (pf hb1) (pf hc2),abV (pf hb1) (pf hc2)]
   exact aV dh rfl ae
 ·refine tg rfl ?_
  refine ac rfl (fh) ?_
  refine ah ?_
  rw[TP (.inl (qT hb1)),TN (.inl (qT hb1))]
  exact aV dh rfl ae
theorem yA (hc:Rz 6000000 c) (hf:Rz 6000000 f) (hb: ¬Vq b c e f):Ok Tryz.prog 285 [.a ((cR a++cR b++cR c)),.a ((cR d++cR e++cR f))] [dR (cc b c f),.c (.b true)]:=by
 refine ca Tryz.func285 rfl<|ac rfl (dj) ?_
 refine dD rfl (fun hc1=>?_) (fun hc1=>?_)
 ·refine ah ?_
  rw[Fv (qT hc1)]
  exact aV bF rfl (az ae)
 ·refine cT 16 [4,999999] ?_
  refine aK rfl (dj) ?_
  refine AF (bz rfl) (fun c2 hb2=>?_)
  cases c2
  ·refine aK rfl (jF (aQ hc) (aQ hf)) ?_
   refine DQ.mk<|jb (fg bF rfl) rfl rfl rfl rfl<|d7 ?_
   refine ah ?_
   rw[Ap (pf hc1),Yy hb (pf hc1) (pf hb2)]
   exact aV bF rfl (az ae)
  ·refine DQ.mk<|LI (fg bF rfl) rfl rfl (by kernel_rfl) rfl<|d7 ?_
   refine ah ?_
   rw[Ap (pf hc1)]
   exact aV bF rfl (az ae)
theorem MK (ha:Rz 1000000 a) (hb:Rz 1000000 b) (hc:Rz 1000000 c) (hd:Rz 1000000 d) (he:Rz 1000000 e) (hf:Rz 1000000 f) (hbad: ¬Vq b c e f):Ok Tryz.prog 189 [.a ((cR a++cR b++cR c)),.a ((cR d++cR e++cR f))] [.a ((cR (a+d)++cR (rB (b+e) (cc b c f))++cR (rC (b+e) (cc b c f)))),.c (.i .i64 0)]:=by
 have ka:Rz 6000000 a:=ha.m_
 have kb:Rz 6000000 b:=hb.m_
 have kc:Rz 6000000 c:=hc.m_
 have kd:Rz 6000000 d:=hd.m_
 have ke:Rz 6000000 e:=he.m_
 have kf:Rz 6000000 f:=hf.m_
 refine ca Tryz.func189 rfl<|ac rfl (yA (by assumption) (by assumption) (by assumption))<|qQ rfl<|cT 12 [] ?_
 refine aK rfl (cn (aQ ha) (aQ hd)) ?_
 refine aK rfl (cn (aQ hb) (aQ he)) ?_
 refine aK rfl (tY) ?_
 exact ah (aV dh rfl (az ae))
theorem MT (ha:Rz 1000000 a) (hb:Rz 1000000 b) (hc:Rz 1000000 c) (hd:Rz 1000000 d) (he:Rz 1000000 e) (hf:Rz 1000000 f) (hbad: ¬Vq b c e f):Ok Tryz.prog 183 [.a ((cR a++cR b++cR c)),.a ((cR d++cR e++cR f))] [.a ((cR (a*d+b*e*cc b c f)++cR (rB (a*e+b*d) (cc b c f))++cR (rC (a*e+b*d) (cc b c f)))),.c (.i .i64 0)]:=by
 have ka:Rz 6000000 a:=ha.m_
 have kb:Rz 6000000 b:=hb.m_
 have kc:Rz 6000000 c:=hc.m_
 have kd:Rz 6000000 d:=hd.m_
 have ke:Rz 6000000 e:=he.m_
 have kf:Rz 6000000 f:=hf.m_
 have hcc:Rz 1000000 (cc b c f):=by unfold cc;split<;>assumption
 have z1:Rz 6000000 (b*e):=(aO hb he).m_
 have z2:Rz 6000000 (cc b c f):=hcc.m_
 have z3:Rz 6000000 (b*e*cc b c f):=(aO (aO hb he) hcc).m_
 refine ca Tryz.func183 rfl<|ac rfl (yA (by assumption) (by assumption) (by assumption))<|qQ rfl<|cT 14 [] ?_
 refine aK rfl (ck (by first|assumption|exact dU ha (by decide)) (by first|assumption|exact dU hd (by decide))) ?_
 refine aK rfl (ck (by first|assumption|exact dU hb (by decide)) (by first|assumption|exact dU he (by decide))) ?_
 refine aK rfl (ck (by first|assumption|exact dU (aO hb he) (by decide)) (by first|assumption|exact dU (by assumption) (by decide))) ?_
 refine aK rfl (cn (by first|assumption|exact dU (aO ha hd) (by decide)) (by first|assumption|exact dU (aO (aO hb he) (by assumption)) (by decide))) ?_
 refine cT 12 [] ?_
 refine aK rfl (ck (by first|assumption|exact dU ha (by decide)) (by first|assumption|exact dU he (by decide))) ?_
 refine aK rfl (ck (by first|assumption|exact dU hb (by decide)) (by first|assumption|exact dU hd (by decide))) ?_
 refine aK rfl (cn (by first|assumption|exact dU (aO ha he) (by decide)) (by first|assumption|exact dU (aO hb hd) (by decide))) ?_
 refine ac rfl (tY) ?_
 exact ah (aV dh rfl (az ae))
theorem F1 (ha:Rz 6000000 a) (hd:Rz 6000000 d):Ok Tryz.prog 335 [.a ((cR a++cR b++cR c)),dR d] [.a ((cR (a+d)++cR b++cR c))]:=by
 refine ca Tryz.func335 rfl<|cT 9 [] ?_
 refine aK rfl (cn (aQ ha) (aQ hd)) ?_
 refine aq (aM (us:=(cR (a+d)++cR b++cR c)) m9 lh rfl rfl rfl) ?_
 exact ah (aV dh rfl ae)
theorem GW {x y:Int}(h0: -9223372036854775808≤x) (h1:x≤9223372036854775807) (h2: -9223372036854775808≤y) (h3:y≤9223372036854775807):Ok Tryz.prog 24 [.c (.i .i64 x),.c (.i .i64 y)] [.a ((cR (((x:Int):Rat))++cR (((y:Int):Rat))))]:=by
 refine ca Tryz.func24 rfl<|ac rfl (dG (by omega) (by omega))<|ac rfl (dG (by omega) (by omega))<|ar (aM (us:=(cR (((x:Int):Rat))++cR (((y:Int):Rat)))) IL G8 rfl rfl rfl) ?_
 exact ah (aV P5 rfl ae)
end Go.Proofs.YtegpmhlfjkhjmaaGreat
