/-Square roots of integers,program and reference. -/
import Derived.Test.YtegpmhlfjkhjmaaGreatYmG
import Derived.Test.YtegpmhlfjkhjmaaGreatRows
import Derived.Deep.Slices
import Derived.ProofKit
import Derived.OpenShut
import Derived.Carry
namespace Go.Proofs.YtegpmhlfjkhjmaaGreat
open Go Go.RowKit
variable {d m n:Int}{x y:Rat}
theorem aP:type_of% @Rz.mul:=@Rz.mul
theorem b4:type_of% @Rz.mono:=@Rz.mono
theorem cT:type_of% @Rz.sub:=@Rz.sub
theorem dg:type_of% @Rz.d:=@Rz.d
theorem de:type_of% @Rz.n:=@Rz.n
theorem dE:type_of% @Sz.mul:=@Sz.mul
theorem eG:type_of% @Rz.int:=@Rz.int
theorem gj:type_of% @Rz.add:=@Rz.add
theorem l5:type_of% @Rz.neg:=@Rz.neg
theorem nj:type_of% @Bool.and_false:=@Bool.and_false
theorem Dg {x:Int}(hx:Sz 99999999 x):Ok Tryz.prog 360 [dI x] [dI (bY x),.c (.i .i64 (if x<0 then 7 else 0))]:=by
 have h20:(2:Int)≠0:=by decide
 have hl:=ig hx
 have hs2:Sz 100000000 (2:Int):=dS (by omega) (by omega) (by omega)
 refine eo Tryz.func360 54 [.cell 2 36,.tmp 3] rfl<|aa<|ag<|aa<|aa<|ag ?_
 refine aJ rfl (fun hc1=>?_) (fun hc1=>?_)
 ·have hn:x<0:=by simpa using hc1
  refine aa<|ag<|ar (aG (us:=([.b false]++[.s 0 []])) KD Ij rfl rfl rfl) ?_
  refine a7 ?_
  rw[vz hn,if_pos hn,zY]
  exact ah (aS d9 rfl (az ae))
 ·have hn:0≤x:=by have:=hc1;simp at this;omega
  refine aA<|aa<|aa<|ag ?_
  refine aJ rfl (fun hc2=>?_) (fun hc2=>?_)
  ·have hz:x=0:=by have:=hc2;simp[et] at this;omega
   refine aa<|ag<|ar (aG (us:=([.b false]++[.s 0 []])) KD Ij rfl rfl rfl) ?_
   refine a7 ?_
   rw[hz,E5,zY,if_neg (by omega)]
   exact ah (aS d9 rfl (az ae))
  ·have hx0:0<x:=by have:=hc2;simp[et] at this;omega
   obtain⟨k,hk⟩: ∃k:Nat,((dA x.natAbs).length+1)/2=k:=⟨_,rfl⟩
   have hpk:=db k
   have hpc:cL (pw k)=cL (pw k):=rfl
   refine aA<|aa<|ag ?_
   refine ar (ci ((((dA x.natAbs).length:Int))+1) (bh (by omega) (by omega)) rfl) ?_
   refine ar (kG (r:=(k:Int)) rfl rfl (by omega) (by rw[ph (by omega),show(((dA x.natAbs).length:Int)+1)/2=(k:Int) from by omega];exact pK (by omega) (by omega)) rfl) ?_
   refine aa<|ag ?_
   refine DL.mk<|pE (j9 (n:=k) xZ rfl rfl (by omega) (by omega) rfl) rfl<|dZ ?_
   refine ar (yo xZ rfl rfl) ?_
   refine DL.mk<|Yx (xo xZ rfl rfl rfl (by omega) rfl)<|dZ ?_
   refine ac rfl (tQ)<|aa<|ag<|ac rfl (jb (by omega) (by omega))<|aE<|bn (ι:={r:Int // NInv 99999999 x r}) (fun i=>⟨54,[(1,.p 1 0),(2,.p 2 0),(3,.v (.c (.i .i64 0))),(5,.p 5 0),(6,.p 6 0)],[(1,36,cI x),(2,36,([.b false]++[.s 0 []])),(5,36,cI i.1),(6,36,cI 2)]⟩) (fun i=>i.1.toNat) ⟨pw k,NInv.start hx0 hx hk (by omega)⟩ (ap ⟨rfl,rfl,rfl,rfl,rfl,trivial⟩ ⟨rfl,rfl,by rw[show sg false (((pw k).natAbs:Nat):Int)=pw k from by rw[dd];have:=db k;omega];rfl,rfl,trivial⟩ rfl) ?_
   rintro⟨r,hg⟩
   replace hg:NInv 99999999 x r:=hg
   have hsr:=hg.sz
   have hr0:=hg.r0
   have hrn:r≠0:=by omega
   obtain⟨hsq,hsum,hsn⟩:=hg.sum hx hx0
   have a1:Sz 100000000 r:=hsr.m_
   have a2:Sz 100000000 (x.fdiv r):=hsq.m_
   have a3:Sz 100000000 x:=hx.m_
   dsimp only
   refine aE<|aa<|ag ?_
   refine ac rfl (nQ (by assumption) (by assumption) (by assumption))<|aa<|dC 14 [10,11,999999] ?_
   refine aK rfl (uc (by assumption) (by assumption)) ?_
   refine aK rfl (nQ (by assumption) (by assumption) (by assumption)) ?_
   refine DQ.mk<|f5 (eh d9 rfl) rfl rfl rfl rfl<|dF ?_
   refine DQ.mk<|f5 (eh d9 rfl) rfl rfl rfl rfl<|dF ?_
   refine aa<|aa<|ag ?_
   refine ac rfl (pN) ?_
   refine aJ rfl (fun hc3=>?_) (fun hc3=>?_)
   ·have hst:=FU hc3
    refine aa<|ag ?_
    refine a7 ?_
    rw[hg.done hx0 hst,if_neg (by omega)]
    exact ah (aS d9 rfl (az ae))
   ·have hlt:=Gc hc3
    refine aA<|ag ?_
    exact⟨⟨(r+x.fdiv r).fdiv 2,hg.next hx0 hlt⟩,ap ⟨rfl,rfl,rfl,rfl,rfl,trivial⟩ ⟨rfl,rfl,rfl,rfl,trivial⟩ rfl,by show((r+x.fdiv r).fdiv 2).toNat<r.toNat;omega⟩
theorem IT {x:Int}(hx:Sz 19999999 x):Ok Tryz.prog 342 [dI x] [dI (bY x),.c (.i .i64 (if x<0 then 7 else 0))]:=by
 have h20:(2:Int)≠0:=by decide
 have hl:=ig hx
 have hs2:Sz 20000000 (2:Int):=dS (by omega) (by omega) (by omega)
 refine eo Tryz.func342 52 [.cell 2 36,.tmp 3] rfl<|aa<|ag<|aa<|aa<|ag ?_
 refine aJ rfl (fun hc1=>?_) (fun hc1=>?_)
 ·have hn:x<0:=by simpa using hc1
  refine aa<|ag<|ar (aG (us:=([.b false]++[.s 0 []])) KD Ij rfl rfl rfl) ?_
  refine a7 ?_
  rw[vz hn,if_pos hn,zY]
  exact ah (aS d9 rfl (az ae))
 ·have hn:0≤x:=by have:=hc1;simp at this;omega
  refine aA<|aa<|aa<|ag ?_
  refine aJ rfl (fun hc2=>?_) (fun hc2=>?_)
  ·have hz:x=0:=by have:=hc2;simp[et] at this;omega
   refine aa<|ag<|ar (aG (us:=([.b false]++[.s 0 []])) KD Ij rfl rfl rfl) ?_
   refine a7 ?_
   rw[hz,E5,zY,if_neg (by omega)]
   exact ah (aS d9 rfl (az ae))
  ·have hx0:0<x:=by have:=hc2;simp[et] at this;omega
   obtain⟨k,hk⟩: ∃k:Nat,((dA x.natAbs).length+1)/2=k:=⟨_,rfl⟩
   have hpk:=db k
   have hpc:cL (pw k)=cL (pw k):=rfl
   refine aA<|aa<|ag ?_
   refine ar (ci ((((dA x.natAbs).length:Int))+1) (bh (by omega) (by omega)) rfl) ?_
   refine ar (kG (r:=(k:Int)) rfl rfl (by omega) (by rw[ph (by omega),show(((dA x.natAbs).length:Int)+1)/2=(k:Int) from by omega];exact pK (by omega) (by omega)) rfl) ?_
   refine DL.mk<|pE (j9 (n:=k) xZ rfl rfl (by omega) (by omega) rfl) rfl<|dZ ?_
   refine ar (yo xZ rfl rfl) ?_
   refine DL.mk<|Yx (xo xZ rfl rfl rfl (by omega) rfl)<|dZ ?_
   refine ar (aG (us:=([.b false]++[cL (pw k)])) KD Ij rfl rfl rfl) ?_
   refine aa<|ag<|ac rfl (qA (by omega) (by omega))<|aE<|bn (ι:={r:Int // NInv 19999999 x r}) (fun i=>⟨52,[(1,.p 1 0),(2,.p 2 0),(3,.v (.c (.i .i64 0))),(4,.p 4 0),(5,.p 5 0)],[(1,36,cI x),(2,36,([.b false]++[.s 0 []])),(4,36,cI i.1),(5,36,cI 2)]⟩) (fun i=>i.1.toNat) ⟨pw k,NInv.start hx0 hx hk (by omega)⟩ (ap ⟨rfl,rfl,rfl,rfl,rfl,trivial⟩ ⟨rfl,rfl,by rw[abM (by have:=db k;omega)];rfl,rfl,trivial⟩ rfl) ?_
   rintro⟨r,hg⟩
   replace hg:NInv 19999999 x r:=hg
   have hsr:=hg.sz
   have hr0:=hg.r0
   have hrn:r≠0:=by omega
   obtain⟨hsq,hsum,hsn⟩:=hg.sum hx hx0
   have a1:Sz 20000000 r:=hsr.m_
   have a2:Sz 90000000 (x.fdiv r):=hsq.m_
   have a3:Sz 20000000 x:=hx.m_
   have a4:Sz 90000000 r:=hsr.m_
   have a5:Sz 100000000 r:=hsr.m_
   have a6:Sz 100000000 ((r+x.fdiv r).fdiv 2):=hsn.m_
   dsimp only
   refine aE<|aa<|ag ?_
   refine ac rfl (mv (by assumption) (by assumption) (by assumption))<|aa<|dC 14 [9,10,999999] ?_
   refine aK rfl (BT (by assumption) (by assumption)) ?_
   refine aK rfl (mv (by assumption) (by assumption) (by assumption)) ?_
   refine DQ.mk<|f5 (eh d9 rfl) rfl rfl rfl rfl<|dF ?_
   refine DQ.mk<|f5 (eh d9 rfl) rfl rfl rfl rfl<|dF ?_
   refine aa<|aa<|ag ?_
   refine ac rfl (LA (by assumption) (by assumption)) ?_
   refine aJ rfl (fun hc3=>?_) (fun hc3=>?_)
   ·have hst:=FU hc3
    refine aa<|ag ?_
    refine a7 ?_
    rw[hg.done hx0 hst,if_neg (by omega)]
    exact ah (aS d9 rfl (az ae))
   ·have hlt:=Gc hc3
    refine aA<|ag ?_
    exact⟨⟨(r+x.fdiv r).fdiv 2,hg.next hx0 hlt⟩,ap ⟨rfl,rfl,rfl,rfl,rfl,trivial⟩ ⟨rfl,rfl,rfl,rfl,trivial⟩ rfl,by show((r+x.fdiv r).fdiv 2).toNat<r.toNat;omega⟩
theorem FF:Ok Tryz.prog 276 [] [dI 1]:=by
 refine bX Tryz.func276 rfl<|ac rfl (jb (by omega) (by omega)) ?_
 exact ah (aS d9 rfl ae)
theorem Hw:Ok Tryz.prog 279 [.c (.i .i64 m)] [.c (.b false)]:=by
 refine bX Tryz.func279 rfl ?_
 exact⟨.inr rfl,by simpa using(az ae)⟩
theorem Or:Ok Tryz.prog 164 [.c (.i .i64 m),.c (.i .i64 n)] [.c (.i .i64 (eK m n))]:=by
 refine bX Tryz.func164 rfl<|ac rfl (Hw)<|ac rfl (Hw)<|sb rfl<|sb rfl ?_
 refine dk rfl (fun hc1=>?_) (fun hc1=>?_)
 ·refine ah ?_
  rw[fj (by simpa using hc1)]
  exact az ae
 ·refine dk rfl (fun hc2=>?_) (fun hc2=>?_)
  ·refine ah ?_
   rw[fm (by simpa using hc2)]
   exact az ae
  ·refine ah ?_
   rw[j8 (by have:=hc1;have h2:=hc2;simp at this h2;omega)]
   exact az ae
theorem kH:Ok Tryz.prog 68 [dR x] [.c (.i .i64 (aM x 0))]:=by
 refine bX Tryz.func68 rfl ?_
 refine ac rfl (C5)<|ah ?_
 rw[←zo]
 exact az ae
theorem cK:Ok Tryz.prog 68 [dR x] [.c (.i .i64 (aM x 0))]:=kH
theorem Nn:Ok Tryz.prog 162 [dI n] [dR (n:Rat)]:=by
 refine bX Tryz.func162 rfl<|cJ 3 [] ?_
 refine aK rfl (FF) ?_
 refine aq (aG (us:=cQ n 1) vk uP rfl rfl rfl) ?_
 refine ah ?_
 rw[Ky]
 exact aS aZ rfl ae
theorem f7 (h0: -9223372036854775808≤n) (h1:n≤9223372036854775807):Ok Tryz.prog 70 [.c (.i .i64 n)] [dR (n:Rat)]:=by
 refine bX Tryz.func70 rfl<|ac rfl (jb (by omega) (by omega))<|ac rfl (Nn) ?_
 exact ah (aS aZ rfl ae)
theorem gT (h0: -9223372036854775808≤n) (h1:n≤9223372036854775807):Ok Tryz.prog 70 [.c (.i .i64 n)] [dR (n:Rat)]:=f7 h0 h1
theorem tY {x y:Int}(hx:Sz 100000000 x) (hy:Sz 100000000 y) (h0:y≠0):Ok Tryz.prog 293 [dI x,dI y] [dI (x.fdiv y)]:=by
 refine bX Tryz.func293 rfl<|ac rfl (nQ (er hx) (er hy) (by assumption)) ?_
 exact ah (aS d9 rfl ae)
theorem oD {x y:Int}(hx:Sz 19980000 x) (hy:Sz 19980000 y) (h0:y≠0):Ok Tryz.prog 207 [dI x,dI y] [dR (Rat.divInt x y)]:=by
 have hg:=Gv (n:=x) h0
 have hg2:=Gv (n:= -x) (d:= -y) (by omega)
 have hgs:=Sz.gcd (x:=x) hy h0
 have hgs2:=Sz.gcd (x:= -x) hy.neg (by omega)
 refine bX Tryz.func207 rfl<|ac rfl (C5) ?_
 refine dk rfl (fun hc1=>?_) (fun hc1=>?_)
 ·have hn:=Y2 hc1
  refine cJ 4 [] ?_
  refine aK rfl (zb (er hx)) ?_
  refine aK rfl (zb (er hy)) ?_
  refine ac rfl (L8 (er (Sz.neg hx)) (er (Sz.neg hy)))<|cJ 4 [] ?_
  refine aK rfl (FF) ?_
  refine aK rfl (pN) ?_
  refine dk rfl (fun hc2=>?_) (fun hc2=>?_)
  ·refine cJ 6 [] ?_
   refine aK rfl (tY (er (Sz.neg hx)) (Q9) (by first|assumption|exact neg_ne (by assumption)|exact iJ (by assumption) (by assumption))) ?_
   refine aK rfl (tY (er (Sz.neg hy)) (Q9) (by first|assumption|exact neg_ne (by assumption)|exact iJ (by assumption) (by assumption))) ?_
   refine ar (aG (us:=cQ ((-x).fdiv ((Int.gcd (-x) (-y):Int))) ((-y).fdiv ((Int.gcd (-x) (-y):Int)))) vk uP rfl rfl rfl) ?_
   refine ah ?_
   rw[KS,CA (by omega)]
   exact aS aZ rfl ae
  ·refine ar (aG (us:=cQ (-x) (-y)) vk uP rfl rfl rfl) ?_
   refine ah ?_
   rw[KS,B6 (by omega) (acd hc2)]
   exact aS aZ rfl ae
 ·have hn:=ZH hc1
  refine ac rfl (L8 (er hx) (er hy))<|cJ 4 [] ?_
  refine aK rfl (FF) ?_
  refine aK rfl (pN) ?_
  refine dk rfl (fun hc3=>?_) (fun hc3=>?_)
  ·refine cJ 6 [] ?_
   refine aK rfl (tY (er hx) (Q9) (by first|assumption|exact neg_ne (by assumption)|exact iJ (by assumption) (by assumption))) ?_
   refine aK rfl (tY (er hy) (Q9) (by first|assumption|exact neg_ne (by assumption)|exact iJ (by assumption) (by assumption))) ?_
   refine ar (aG (us:=cQ (x.fdiv (Int.gcd x y:Int)) (y.fdiv (Int.gcd x y:Int))) vk uP rfl rfl rfl) ?_
   refine ah ?_
   rw[CA (by omega)]
   exact aS aZ rfl ae
  ·refine ar (aG (us:=cQ x y) vk uP rfl rfl rfl) ?_
   refine ah ?_
   rw[B6 (by omega) (acd hc3)]
   exact aS aZ rfl ae
theorem xi {x y:Int}(hx:Sz 19980000 x) (hy:Sz 19980000 y) (h0:y≠0):Ok Tryz.prog 313 [dI x,dI y] [dR (Rat.divInt x y),.c (.i .i64 0)]:=by
 refine bX Tryz.func313 rfl<|ac rfl (C5) ?_
 refine dk rfl (fun hc1=>?_) (fun hc1=>?_)
 ·exact absurd (UP hc1) h0
 ·refine ac rfl (oD (er hx) (er hy) (by first|assumption|exact neg_ne (by assumption)|exact iJ (by assumption) (by assumption))) ?_
  exact ah (aS aZ rfl (az ae))
theorem dX (hx:Rz 6000000 x):Ok Tryz.prog 72 [dR x] [dR (-x)]:=by
 refine bX Tryz.func72 rfl<|cJ 6 [] ?_
 refine aK rfl (zb (er (de hx))) ?_
 refine aq (aG (us:=cQ (-x.num) (x.den:Int)) vk uP rfl rfl rfl) ?_
 refine ah ?_
 rw[Qm (Rat.neg_num x) (congrArg Int.ofNat (Rat.neg_den x))]
 exact aS aZ rfl ae
theorem MN (hx:Rz 300 x):Ok Tryz.prog 72 [dR x] [dR (-x)]:=dX (hx.mono (by decide))
theorem ja (hx:Rz 6000000 x) (hy:Rz 6000000 y):Ok Tryz.prog 206 [dR x,dR y] [dR (x+y)]:=by
 have hn:=iJ (jG x) (jG y)
 have hn1:=jG x
 refine bX Tryz.func206 rfl<|ac rfl (pN) ?_
 refine dk rfl (fun hc1=>?_) (fun hc1=>?_)
 ·refine cJ 8 [] ?_
  refine aK rfl (uc (er (de hx)) (er (de hy))) ?_
  refine aK rfl (oD (er (Sz.addm (de hx) (de hy))) (er (dg hx)) (by first|assumption|exact neg_ne (by assumption)|exact iJ (by assumption) (by assumption))) ?_
  refine ah ?_
  rw[←aaS (UP hc1)]
  exact aS aZ rfl ae
 ·refine cJ 17 [] ?_
  refine aK rfl (gN (er (de hx)) (er (dg hy))) ?_
  refine aK rfl (gN (er (de hy)) (er (dg hx))) ?_
  refine aK rfl (uc (er (dE (de hx) (dg hy))) (er (dE (de hy) (dg hx)))) ?_
  refine aK rfl (gN (er (dg hx)) (er (dg hy))) ?_
  refine aK rfl (oD (er (Sz.addm (dE (de hx) (dg hy)) (dE (de hy) (dg hx)))) (er (dE (dg hx) (dg hy))) (by first|assumption|exact neg_ne (by assumption)|exact iJ (by assumption) (by assumption))) ?_
  refine ah ?_
  rw[←SE]
  exact aS aZ rfl ae
theorem UF (hx:Rz 300 x) (hy:Rz 300 y):Ok Tryz.prog 206 [dR x,dR y] [dR (x+y)]:=ja (hx.mono (by decide)) (hy.mono (by decide))
theorem eZ (hx:Rz 6000000 x) (hy:Rz 6000000 y):Ok Tryz.prog 208 [dR x,dR y] [dR (x-y)]:=by
 refine bX Tryz.func208 rfl<|cJ 4 [] ?_
 refine aK rfl (dX (aO hy)) ?_
 refine aK rfl (ja (aO hx) (aO (l5 hy)))<|ah ?_
 rw[Rat.sub_eq_add_neg]
 exact aS aZ rfl ae
theorem Uw (hx:Rz 300 x) (hy:Rz 300 y):Ok Tryz.prog 208 [dR x,dR y] [dR (x-y)]:=eZ (hx.mono (by decide)) (hy.mono (by decide))
theorem cX (hx:Rz 6000000 x) (hy:Rz 6000000 y):Ok Tryz.prog 233 [dR x,dR y] [dR (x*y)]:=by
 have hn:=iJ (jG x) (jG y)
 refine bX Tryz.func233 rfl<|cJ 11 [] ?_
 refine aK rfl (gN (er (de hx)) (er (de hy))) ?_
 refine aK rfl (gN (er (dg hx)) (er (dg hy))) ?_
 refine aK rfl (oD (er (dE (de hx) (de hy))) (er (dE (dg hx) (dg hy))) (by first|assumption|exact neg_ne (by assumption)|exact iJ (by assumption) (by assumption))) ?_
 refine ah ?_
 rw[←Vd]
 exact aS aZ rfl ae
theorem Vb (hx:Rz 300 x) (hy:Rz 300 y):Ok Tryz.prog 233 [dR x,dR y] [dR (x*y)]:=cX (hx.mono (by decide)) (hy.mono (by decide))
theorem qt (hx:Rz 6000000 x) (hy:Rz 6000000 y) (h0:y≠0):Ok Tryz.prog 116 [dR x,dR y] [dR (x/y),.c (.i .i64 0)]:=by
 have hn:=iJ (jG x) (Qk h0)
 refine bX Tryz.func116 rfl<|ac rfl (cK) ?_
 refine dk rfl (fun hc1=>?_) (fun hc1=>?_)
 ·exact absurd (GJ hc1) h0
 ·refine cJ 11 [] ?_
  refine aK rfl (gN (er (de hx)) (er (dg hy))) ?_
  refine aK rfl (gN (er (dg hx)) (er (de hy))) ?_
  refine aK rfl (oD (er (dE (de hx) (dg hy))) (er (dE (dg hx) (de hy))) (by first|assumption|exact neg_ne (by assumption)|exact iJ (by assumption) (by assumption))) ?_
  refine ah ?_
  rw[←U8]
  exact aS aZ rfl (az ae)
theorem L5 (hx:Rz 300 x) (hy:Rz 300 y) (h0:y≠0):Ok Tryz.prog 116 [dR x,dR y] [dR (x/y),.c (.i .i64 0)]:=qt (hx.mono (by decide)) (hy.mono (by decide)) h0
theorem l6 (hx:Rz 6000000 x) (hy:Rz 6000000 y):Ok Tryz.prog 71 [dR x,dR y] [.c (.i .i64 (aM x y))]:=by
 refine bX Tryz.func71 rfl<|cJ 6 [] ?_
 refine aK rfl (cK) ?_
 refine aK rfl (cK) ?_
 refine aK rfl (Or) ?_
 refine dk rfl (fun hc1=>?_) (fun hc1=>?_)
 ·refine ah ?_
  rw[←J2 hc1]
  exact az ae
 ·refine cJ 12 [] ?_
  refine aK rfl (gN (er (de hx)) (er (dg hy))) ?_
  refine aK rfl (gN (er (de hy)) (er (dg hx))) ?_
  refine aK rfl (pN)<|ah ?_
  rw[It (x:=x) (y:=y)]
  exact az ae
theorem tR (hx:Rz 300 x) (hy:Rz 300 y):Ok Tryz.prog 71 [dR x,dR y] [.c (.i .i64 (aM x y))]:=l6 (hx.mono (by decide)) (hy.mono (by decide))
theorem yh (hx:Rz 6000000 x):Ok Tryz.prog 323 [dR x] [dI (x.num.fdiv (x.den:Int))]:=by
 have hn1:=jG x
 refine bX Tryz.func323 rfl<|ac rfl (nQ (er (de hx)) (er (dg hx)) (by assumption)) ?_
 exact ah (aS d9 rfl ae)
theorem E6 {x:Int}(hx:Sz 6000000 x):Ok Tryz.prog 364 [dI x] [dI (bY x),.c (.b (DX x))]:=by
 have hs:=Sz.isq hx
 refine bX Tryz.func364 rfl<|ac rfl (Dg (er hx))<|cJ 13 [2,999999] ?_
 refine BD (bE rfl) (fun c1 hb1=>?_)
 cases c1
 ·refine DQ.mk<|iE (eh d9 rfl) rfl rfl rfl rfl<|dF ?_
  refine ah ?_
  rw[LB (e7 hb1)]
  exact aS d9 rfl (az ae)
 ·refine aK rfl (gN (er (Sz.isq hx)) (er (Sz.isq hx))) ?_
  refine aK rfl (pN) ?_
  refine DQ.mk<|Lw (eh d9 rfl) rfl rfl (by kernel_rfl) rfl<|dF ?_
  refine ah ?_
  rw[MU]
  exact aS d9 rfl (az ae)
theorem El (hx:Rz 6000000 x):Ok Tryz.prog 319 [dR x] [dQ (if je x then bY x.num else 0) (if je x then bY (x.den:Int) else 0),.c (.b (je x))]:=by
 refine bX Tryz.func319 rfl<|ac rfl (E6 (er (de hx))) ?_
 refine dk rfl (fun hc1=>?_) (fun hc1=>?_)
 ·refine ac rfl (E6 (er (dg hx))) ?_
  refine dk rfl (fun hc2=>?_) (fun hc2=>?_)
  ·refine ar (aG (us:=cQ (bY x.num) (bY (x.den:Int))) vk uP rfl rfl rfl) ?_
   refine ah ?_
   rw[WA hc1 hc2,if_pos rfl,if_pos rfl]
   exact aS aZ rfl (az ae)
  ·refine ar (aG (us:=(([.b false]++[.s 0 []])++([.b false]++[.s 0 []]))) vk uP rfl rfl rfl) ?_
   refine ah ?_
   rw[QJ hc2,if_neg (by decide),if_neg (by decide),B4]
   exact aS aZ rfl (az ae)
 ·refine ar (aG (us:=(([.b false]++[.s 0 []])++([.b false]++[.s 0 []]))) vk uP rfl rfl rfl) ?_
  refine ah ?_
  rw[OL hc1,if_neg (by decide),if_neg (by decide),B4]
  exact aS aZ rfl (az ae)
theorem Ic:Ok Tryz.prog 67 [] [dI 1]:=by
 refine bX Tryz.func67 rfl<|ac rfl (qA (by omega) (by omega)) ?_
 exact ah (aS d9 rfl ae)
theorem jz:Ok Tryz.prog 79 [dR x] [.c (.i .i64 (aM x 0))]:=by
 refine bX Tryz.func79 rfl ?_
 refine ac rfl (yP)<|ah ?_
 rw[←zo]
 exact az ae
theorem dm:Ok Tryz.prog 79 [dR x] [.c (.i .i64 (aM x 0))]:=jz
theorem d8 (h0: -9223372036854775808≤n) (h1:n≤9223372036854775807):Ok Tryz.prog 18 [.c (.i .i64 n)] [dR (n:Rat)]:=by
 refine bX Tryz.func18 rfl<|ac rfl (qA (by omega) (by omega))<|ac rfl (Ic)<|ar (aG (us:=cQ n 1) vk uP rfl rfl rfl) ?_
 refine ah ?_
 rw[Ky]
 exact aS aZ rfl ae
theorem eE (h0: -9223372036854775808≤n) (h1:n≤9223372036854775807):Ok Tryz.prog 18 [.c (.i .i64 n)] [dR (n:Rat)]:=d8 h0 h1
theorem rI {x y:Int}(hx:Sz 19980000 x) (hy:Sz 19980000 y) (h0:y≠0):Ok Tryz.prog 101 [dI x,dI y] [dR (Rat.divInt x y)]:=by
 have hg:=Gv (n:=x) h0
 have hg2:=Gv (n:= -x) (d:= -y) (by omega)
 have hgs:=(Sz.gcd (x:=x) hy h0).mono (l:=20000000) (by decide)
 have hgs2:=(Sz.gcd (x:= -x) hy.neg (by omega)).mono (l:=20000000) (by decide)
 refine bX Tryz.func101 rfl<|ac rfl (yP) ?_
 refine dk rfl (fun hc1=>?_) (fun hc1=>?_)
 ·have hn:=Y2 hc1
  refine cJ 4 [] ?_
  refine aK rfl (ze (er hx)) ?_
  refine aK rfl (ze (er hy)) ?_
  refine ac rfl (FA (er (Sz.neg hx)) (er (Sz.neg hy))) ?_
  refine ac rfl (mv (er (Sz.neg hx)) (Q9) (by assumption)) ?_
  refine ac rfl (mv (er (Sz.neg hy)) (Q9) (by assumption)) ?_
  refine ar (aG (us:=cQ ((-x).fdiv ((Int.gcd (-x) (-y):Int))) ((-y).fdiv ((Int.gcd (-x) (-y):Int)))) vk uP rfl rfl rfl) ?_
  refine ah ?_
  rw[KS,CA (by omega)]
  exact aS aZ rfl ae
 ·have hn:=ZH hc1
  refine ac rfl (FA (er hx) (er hy))<|ac rfl (mv (er hx) (Q9) (by assumption))<|ac rfl (mv (er hy) (Q9) (by assumption))<|ar (aG (us:=cQ (x.fdiv (Int.gcd x y:Int)) (y.fdiv (Int.gcd x y:Int))) vk uP rfl rfl rfl) ?_
  refine ah ?_
  rw[CA (by omega)]
  exact aS aZ rfl ae
theorem Om {x y:Int}(hx:Sz 19980000 x) (hy:Sz 19980000 y) (h0:y≠0):Ok Tryz.prog 290 [dI x,dI y] [dR (Rat.divInt x y),.c (.i .i64 0)]:=by
 refine bX Tryz.func290 rfl<|ac rfl (yP) ?_
 refine dk rfl (fun hc1=>?_) (fun hc1=>?_)
 ·exact absurd (UP hc1) h0
 ·refine ac rfl (rI (er hx) (er hy) (by first|assumption|exact neg_ne (by assumption)|exact iJ (by assumption) (by assumption))) ?_
  exact ah (aS aZ rfl (az ae))
theorem xe (h0: -9223372036854775808≤n) (h1:n≤9223372036854775807) (h2: -9223372036854775808≤d) (h3:d≤9223372036854775807) (hd:d≠0):Ok Tryz.prog 30 [.c (.i .i64 n),.c (.i .i64 d)] [dR (Rat.divInt n d)]:=by
 have z1:Sz 19980000 n:=dS (by decide) h0 h1
 have z2:Sz 19980000 d:=dS (by decide) h2 h3
 refine bX Tryz.func30 rfl ?_
 refine dk rfl (fun hc1=>?_) (fun hc1=>?_)
 ·exact absurd (by simpa using hc1) hd
 ·refine ac rfl (qA (by omega) (by omega))<|ac rfl (qA (by omega) (by omega)) ?_
  refine ac rfl (rI (Q9) (Q9) (by first|assumption|exact neg_ne (by assumption)|exact iJ (by assumption) (by assumption))) ?_
  exact ah (aS aZ rfl ae)
theorem Rj (h0: -9223372036854775808≤n) (h1:n≤9223372036854775807) (h2: -9223372036854775808≤d) (h3:d≤9223372036854775807) (hd:d≠0):Ok Tryz.prog 30 [.c (.i .i64 n),.c (.i .i64 d)] [dR (Rat.divInt n d)]:=xe h0 h1 h2 h3 hd
theorem iy (hx:Rz 6000000 x):Ok Tryz.prog 93 [dR x] [dR (-x)]:=by
 refine bX Tryz.func93 rfl<|cJ 6 [] ?_
 refine aK rfl (ze (er (de hx))) ?_
 refine aq (aG (us:=cQ (-x.num) (x.den:Int)) vk uP rfl rfl rfl) ?_
 refine ah ?_
 rw[Qm (Rat.neg_num x) (congrArg Int.ofNat (Rat.neg_den x))]
 exact aS aZ rfl ae
theorem cS (hx:Rz 6000000 x) (hy:Rz 6000000 y):Ok Tryz.prog 113 [dR x,dR y] [dR (x+y)]:=by
 have hn:=iJ (jG x) (jG y)
 refine bX Tryz.func113 rfl<|ac rfl (n5 (er (de hx)) (er (dg hy)))<|ac rfl (n5 (er (de hy)) (er (dg hx)))<|cJ 9 [] ?_
 refine aK rfl (BT (er (dE (de hx) (dg hy))) (er (dE (de hy) (dg hx)))) ?_
 refine aK rfl (n5 (er (dg hx)) (er (dg hy))) ?_
 refine aK rfl (rI (er (Sz.addm (dE (de hx) (dg hy)) (dE (de hy) (dg hx)))) (er (dE (dg hx) (dg hy))) (by first|assumption|exact neg_ne (by assumption)|exact iJ (by assumption) (by assumption))) ?_
 refine ah ?_
 rw[←SE]
 exact aS aZ rfl ae
theorem dM (hx:Rz 6000000 x) (hy:Rz 6000000 y):Ok Tryz.prog 95 [dR x,dR y] [dR (x-y)]:=by
 refine bX Tryz.func95 rfl<|cJ 4 [] ?_
 refine aK rfl (iy (aO hy)) ?_
 refine aK rfl (cS (aO hx) (aO (l5 hy)))<|ah ?_
 rw[Rat.sub_eq_add_neg]
 exact aS aZ rfl ae
theorem co (hx:Rz 6000000 x) (hy:Rz 6000000 y):Ok Tryz.prog 96 [dR x,dR y] [dR (x*y)]:=by
 have hn:=iJ (jG x) (jG y)
 refine bX Tryz.func96 rfl<|cJ 11 [] ?_
 refine aK rfl (n5 (er (de hx)) (er (de hy))) ?_
 refine aK rfl (n5 (er (dg hx)) (er (dg hy))) ?_
 refine aK rfl (rI (er (dE (de hx) (de hy))) (er (dE (dg hx) (dg hy))) (by first|assumption|exact neg_ne (by assumption)|exact iJ (by assumption) (by assumption))) ?_
 refine ah ?_
 rw[←Vd]
 exact aS aZ rfl ae
theorem oB (hx:Rz 6000000 x) (hy:Rz 6000000 y) (h0:y≠0):Ok Tryz.prog 205 [dR x,dR y] [dR (x/y),.c (.i .i64 0)]:=by
 have hn:=iJ (jG x) (Qk h0)
 refine bX Tryz.func205 rfl<|cJ 13 [] ?_
 refine aK rfl (n5 (er (de hx)) (er (dg hy))) ?_
 refine aK rfl (n5 (er (dg hx)) (er (de hy))) ?_
 refine aK rfl (Om (er (dE (de hx) (dg hy))) (er (dE (dg hx) (de hy))) (by first|assumption|exact neg_ne (by assumption)|exact iJ (by assumption) (by assumption))) ?_
 refine ah ?_
 rw[←U8]
 exact aS aZ rfl (az ae)
theorem qy (hx:Rz 6000000 x) (hy:Rz 6000000 y):Ok Tryz.prog 32 [dR x,dR y] [.c (.i .i64 (aM x y))]:=by
 refine bX Tryz.func32 rfl<|cJ 12 [] ?_
 refine aK rfl (n5 (er (de hx)) (er (dg hy))) ?_
 refine aK rfl (n5 (er (de hy)) (er (dg hx))) ?_
 refine aK rfl (LA (er (dE (de hx) (dg hy))) (er (dE (de hy) (dg hx))))<|ah ?_
 rw[It (x:=x) (y:=y)]
 exact az ae
theorem K0 (hx:Rz 300 x) (hy:Rz 300 y):Ok Tryz.prog 32 [dR x,dR y] [.c (.i .i64 (aM x y))]:=qy (hx.mono (by decide)) (hy.mono (by decide))
theorem Dr (hx:Rz 6000000 x):Ok Tryz.prog 371 [dR x] [dI (x.num.fdiv (x.den:Int))]:=by
 have hn1:=jG x
 refine bX Tryz.func371 rfl<|ac rfl (mv (er (de hx)) (er (dg hx)) (by assumption)) ?_
 exact ah (aS d9 rfl ae)
theorem Ek {x:Int}(hx:Sz 6000000 x):Ok Tryz.prog 273 [dI x] [dI (bY x),.c (.b (DX x))]:=by
 have hs:=Sz.isq hx
 refine bX Tryz.func273 rfl<|ac rfl (IT (er hx))<|cJ 12 [2,999999] ?_
 refine BD (bE rfl) (fun c1 hb1=>?_)
 cases c1
 ·refine DQ.mk<|iE (eh d9 rfl) rfl rfl rfl rfl<|dF ?_
  refine ah ?_
  rw[LB (e7 hb1)]
  exact aS d9 rfl (az ae)
 ·refine aK rfl (n5 (er (Sz.isq hx)) (er (Sz.isq hx))) ?_
  refine aK rfl (zN (er (dE (Sz.isq hx) (Sz.isq hx))) (er hx)) ?_
  refine DQ.mk<|Lw (eh d9 rfl) rfl rfl (by kernel_rfl) rfl<|dF ?_
  refine ah ?_
  rw[show DX x=(bY x*bY x==x) from rfl]
  exact aS d9 rfl (az ae)
theorem sU (hx:Rz 6000000 x):Ok Tryz.prog 151 [dR x] [dQ (if je x then bY x.num else 0) (if je x then bY (x.den:Int) else 0),.c (.b (je x))]:=by
 refine bX Tryz.func151 rfl<|ac rfl (Ek (er (de hx)))<|ac rfl (Ek (er (dg hx))) ?_
 refine jU (bE rfl) (fun c1 hb1=>?_)
 cases c1
 ·refine dk rfl (fun hc2=>?_) (fun hc2=>?_)
  ·refine ar (aG (us:=(([.b false]++[.s 0 []])++([.b false]++[.s 0 []]))) vk uP rfl rfl rfl) ?_
   refine ah ?_
   rw[QJ (by simpa using hc2),if_neg (by decide),if_neg (by decide),B4]
   exact aS aZ rfl (az ae)
  ·refine ar (aG (us:=cQ (bY x.num) (bY (x.den:Int))) vk uP rfl rfl rfl) ?_
   refine ah ?_
   rw[WA (by simpa using hb1) (by simpa using hc2),if_pos rfl,if_pos rfl]
   exact aS aZ rfl (az ae)
 ·refine sy rfl<|ar (aG (us:=(([.b false]++[.s 0 []])++([.b false]++[.s 0 []]))) vk uP rfl rfl rfl) ?_
  refine ah ?_
  rw[OL (by simpa using hb1),if_neg (by decide),if_neg (by decide),B4]
  exact aS aZ rfl (az ae)
theorem Iu (hx:Rz 300 x):Ok Tryz.prog 151 [dR x] [dQ (if je x then bY x.num else 0) (if je x then bY (x.den:Int) else 0),.c (.b (je x))]:=sU (hx.mono (by decide))
theorem EF (hx:Rz 6000000 x) (hy:Rz 6000000 y):Ok Tryz.prog 40 [dR x,dR y] [.c (.b (decide (x=y)))]:=by
 refine bX Tryz.func40 rfl ?_
 refine ac rfl (zN (er (de hx)) (er (de hy))) ?_
 refine jU (bE rfl) (fun c1 hb1=>?_)
 cases c1
 ·refine ah ?_
  rw[Ya hb1]
  exact az ae
 ·refine ac rfl (zN (er (dg hx)) (er (dg hy)))<|ah ?_
  rw[YB hb1]
  exact az ae
theorem NA {neg:Bool}{xs:List Int}(hb:TL xs) (hn:xs.length≤10000000):Ok Tryz.prog 73 [.a (([.b neg]++[cM xs]))] [.c (.b (vI neg xs))]:=by
 refine bX Tryz.func73 rfl ?_
 refine DW.mk<|bn (ι:={k:Nat // k≤xs.length∧ ∀j,j<k→xs.getD j 0<1000000000}) (fun i=>⟨36,[(1,.p 1 0),(3,.v (.c (.i .i64 (i.1:Int))))],[(1,36,([.b neg]++[cM xs]))]⟩) (fun i=>xs.length-i.1) ⟨0,eF _,fun j hj=>by omega⟩ (ap ⟨rfl,rfl,trivial⟩ ⟨rfl,trivial⟩ rfl) ?_
 rintro⟨k,hk0,hall⟩
 replace hk0:k≤xs.length:=hk0
 replace hall: ∀j,j<k→xs.getD j 0<1000000000:=hall
 have hg:=Sd hb k
 dsimp only
 refine nu ?_
 refine dk rfl (fun hc1=>?_) (fun hc1=>?_)
 ·have hk:k<xs.length:=by simp only[decide_eq_true_eq] at hc1;omega
  refine ar (bI jv rfl rfl (by omega) (jx _) rfl rfl) ?_
  refine ar (b7 fN rfl (kX (i:=k) (by omega)) rfl) ?_
  refine dk rfl (fun hc2=>?_) (fun hc2=>?_)
  ·have hbad:xs.getD k 0≥1000000000:=by simpa using hc2
   refine ah ?_
   rw[Z5 hk hbad]
   exact az ae
  ·have hok: ¬xs.getD k 0≥1000000000:=by simpa using hc2
   have hstep: ∀j,j<k+1→xs.getD j 0<1000000000:=fun j hj=>by
    rcases gO j k with h1|h1
    ·exact hall j h1
    ·rw[show j=k from by omega];omega
   refine ar (ci ((k:Int)+1) (bh (by omega) (by omega)) rfl) ?_
   exact⟨⟨k+1,hk,hstep⟩,ap ⟨rfl,by rw[show((k+1:Nat):Int)=(k:Int)+1 from by omega];rfl,trivial⟩ ⟨rfl,trivial⟩ rfl,by show xs.length-(k+1)<xs.length-k;omega⟩
 ·have hk:k=xs.length:=by simp only[decide_eq_false_iff_not] at hc1;omega
  have hL:Lim xs:=Ka hb (by rw[←hk];exact hall)
  refine cJ 20 [] ?_
  refine aK rfl (lT hL (by omega)) ?_
  refine BD (bE rfl) (fun c3 hb3=>?_)
  cases c3
  ·refine DQ.mk<|wt (oI rfl)<|dF ?_
   refine ah ?_
   rw[JY hL,hb3,pi]
   exact az ae
  ·refine BD (bE rfl) (fun c4 hb4=>?_)
   cases c4
   ·refine ah ?_
    rw[JY hL,hb3,hb4,Bool.false_or,iF]
    exact az ae
   ·refine ah ?_
    rw[JY hL,hb3,hb4,Bool.true_or,iF]
    exact az ae
def vQ (x y:Int):Bool:=decide (0<y)&&(((Int.gcd x y:Nat):Int)==1)
theorem ad0 {x:Int}:vI (decide (x<0)) (dA x.natAbs)=true:=by
 unfold vI
 rw[Ds (b8 _),show trm (dA x.natAbs)=dA x.natAbs from js _]
 by_cases h:x<0
 ·have:dA x.natAbs≠ []:=fun e=>by have:=et.1 e;omega
  have:=List.length_pos_iff.2 this
  grind
 grind
theorem Vv (v:Nat):TL (dA v):=fun x hx=>by have:=b8 v x hx;omega
theorem Jp {x:Int}(hx:Sz 10000000 x):Ok Tryz.prog 73 [dI x] [.c (.b true)]:=by
 have:=NA (neg:=decide (x<0)) (xs:=dA x.natAbs) (Vv _) (ig hx)
 rw[ad0] at this;exact this
theorem aes {x y:Int}(h:vQ x y=true):cQ x y=cR (Rat.divInt x y):=by
 unfold vQ at h
 simp only[dL,decide_eq_true_eq,beq_iff_eq] at h
 have:=B6 (n:=x) h.1 h.2
 unfold dR dQ at this
 injection this with this
 exact this.symm
theorem acA (x:Rat):vQ x.num (x.den:Int)=true:=by
 unfold vQ
 simp only[dL,decide_eq_true_eq,beq_iff_eq]
 refine⟨den_pos x,?_⟩
 have:Int.gcd x.num (x.den:Int)=1:=x.reduced
 grind
theorem Rr {x y:Int}(h:vQ x y=true):(Rat.divInt x y).num=x∧((Rat.divInt x y).den:Int)=y:=by
 unfold vQ at h
 simp only[dL,decide_eq_true_eq,beq_iff_eq] at h
 obtain⟨h1,h2⟩:=h
 have h3:Int.gcd x y=1:=by omega
 rw[Rat.num_divInt,Rat.den_divInt,if_neg (by omega),Int.sign_eq_one_of_pos h1,pn,Int.gcd_comm y x,h3]
 grind
theorem abL {x y:Int}(h:(eK y 0 !=1)=true):vQ x y=false:=by
 unfold vQ
 have h1: ¬0<y:=fun e=>by rw[fm e] at h;cases h
 grind
theorem acb {y:Int}(h:(eK y 0 !=1)=false):y≠0:=fun e=>by rw[j8 e] at h;cases h
theorem ab8 {x y:Int}(h:(eK y 0 !=1)=false):vQ x y=(((Int.gcd x y:Nat):Int)==1):=by
 unfold vQ
 have h1:0<y:=by
  rcases rE y 0 with e|e|e
  ·rw[fj e] at h;cases h
  ·rw[j8 e] at h;cases h
  grind
 grind
end Go.Proofs.YtegpmhlfjkhjmaaGreat
namespace Go.Proofs.YtegpmhlfjkhjmaaGreat
open Go.ChangeShapes Go.WideShapes Go.ChangeAt Go.RowKit Go.Deep
theorem own:ownKnob Tryz.prog.godebug=none:=by kernel_rfl
theorem Mh:laidOutB Tryz.prog=true:=by kernel_rfl
def SV:Nat→Prop:=fun _=>False
section
variable {H:Type}{enc:TypeId×Value→H}{w:World}{base:Nat}{spare:Nat→Bool}{held:Bool}
theorem I8 {α:Type}{p:Nat→α→Prop}: ∀(n:Nat),(∀i,i<n→ ∃a,p i a)→ ∃l:List α,l.length=n∧ ∀i a,l[i]? =some a→p i a
 |0,_=>⟨[],rfl,fun i a h=>by simp at h⟩
 |n+1,h=>by
  obtain⟨l,hl,hp⟩:=I8 n (fun i hi=>h i (by omega))
  obtain⟨a,ha⟩:=h n (by omega)
  refine⟨l++[a],by simp[hl],fun i b hb=>?_⟩
  rcases gO i n with h1|h1
  ·rw[C4 (by omega)] at hb;exact hp i b hb
  ·rw[Dd (by omega)] at hb
   have:i=n:=by
    rcases gO (i-l.length) 1 with h2|h2
    ·omega
    ·rw[tP (by simpa using h2)] at hb;cases hb
   subst this
   rw[hl] at hb;simp at hb;subst hb;exact ha
theorem Mo (a:Addr) (k:Nat) (v:Value) (h:w.cell? (a.add k)=some v):w.cell? ⟨a.block,a.off+k,none⟩=some v:=by
 obtain⟨b,off,spot⟩:=a
 by_cases hk:k=0
 ·subst hk
  have hs:spot=none:=by simpa [Addr.add] using World.cell?_spot h
  subst hs
  simpa [Addr.add] using h
 ·simpa [Addr.add,hk] using h
theorem QM (a:Addr) (v:Value) (h:w.cell? (a.add 0)=some v):a=⟨a.block,a.off,none⟩:=by
 obtain⟨b,off,spot⟩:=a
 have hs:spot=none:=by simpa [Addr.add] using World.cell?_spot h
 subst hs;rfl
theorem X3 (b off:Nat) (v:Value) (h:w.cell? ⟨b,off,none⟩=some v):b<w.heap.size:=World.block_lt_of_cell? w _ h
theorem Xr {f:FuncId}{ds:List D0}{vs:Array Value}{W:World}(h:Ok Tryz.prog f ds [.c (.b true)]) (hr:RdL SV W vs.toList ds):Calls Tryz.prog f vs W fun e W'=>e=.returned (.bool true)∧Below W.heap.size W W':=
 (h.run SV vs W (fun _ h=>h.elim) hr).mono fun e w' ⟨v,e1,h1,h2⟩=>by
  have:=uX h1
  subst this
  exact⟨e1,h2⟩
end
end Go.Proofs.YtegpmhlfjkhjmaaGreat
namespace Go.Proofs.YtegpmhlfjkhjmaaGreat
open Go.ChangeShapes Go.WideShapes Go.ChangeAt Go.RowKit
theorem IM:Tryz.pinned.checked.prog.funcNamed Rows.engagementAtMostRow.func=some 4:=by kernel_rfl
theorem IY:joinedFacts Tryz.pinned.checked.prog 4 Tryz.f4 Rows.engagementAtMostSpec Rows.engagementAtMostRow=true:=by kernel_rfl
end Go.Proofs.YtegpmhlfjkhjmaaGreat
namespace Go.Proofs.YtegpmhlfjkhjmaaGreat
open Go Go.RowKit
variable {ops:Array Oper}{B:BF}{hi lo m n r s t:Int}{k:IntKind}{P:Program}{p:Prop}{A C D M N a a1 a2 b b1 b2 c c1 c2 d e f v w x y:Rat}{T:TF}{U t1 t2:TypeId}
variable {ty:TypeId}{pos:String}{af:Array Edge}{g:Option (Nat×Bool)}{dst:Option Nat}
section
variable {P:Program}{ops:Array Oper}{T:TF}{B:BF}
theorem Gz {x y:Operand}
 (hx:cG T x=some (.v (.c (.i k m)))) (hy:cG T y=some (.v (.c (.i k n)))) (hg:gd ops ⟨dst,.call ⟨.builtin .max,#[x,y],#[t1,t2]⟩,ty,pos,af,g⟩ T=some true):
 Sem P ops ⟨dst,.call ⟨.builtin .max,#[x,y],#[t1,t2]⟩,ty,pos,af,g⟩ T B (.r (.v (.c (.i k (max m n))))):=
 bL hg (pS rfl) (fun V β a w hs=>by
  have e1:a.eval x=.int k m:=fT (aD hs (x:=x) (by simp[Op.operands,Call.operands]) hx)
  have e2:a.eval y=.int k n:=fT (aD hs (x:=y) (by simp[Op.operands,Call.operands]) hy)
  refine⟨.int k (max m n),?_,.i _ _⟩
  simp[execOp,resolve,invoke,builtin,Builtin.max_,Builtin.max2,e1,e2]
  split<;>omega)
theorem LL {x y:Operand}
 (hx:cG T x=some (.v (.c (.i k m)))) (hy:cG T y=some (.v (.c (.i k n)))) (hg:gd ops ⟨dst,.call ⟨.builtin .min,#[x,y],#[t1,t2]⟩,ty,pos,af,g⟩ T=some true):
 Sem P ops ⟨dst,.call ⟨.builtin .min,#[x,y],#[t1,t2]⟩,ty,pos,af,g⟩ T B (.r (.v (.c (.i k (min m n))))):=
 bL hg (pS rfl) (fun V β a w hs=>by
  have e1:a.eval x=.int k m:=fT (aD hs (x:=x) (by simp[Op.operands,Call.operands]) hx)
  have e2:a.eval y=.int k n:=fT (aD hs (x:=y) (by simp[Op.operands,Call.operands]) hy)
  refine⟨.int k (min m n),?_,.i _ _⟩
  simp[execOp,resolve,invoke,builtin,Builtin.min_,Builtin.min2,e1,e2]
  split<;>omega)
end
theorem bV {e:TypeId}{ps:Array (Nat×Operand)}{n m by_:Nat}{zs us:List CellD}{dps:List (Nat×D0)}
 (hU:tG P U=some (e,m,by_,zs)) (hp:ve T ps.toList=some dps) (hf:xx (fun i=>some (i*m,m)) (List.replicate n zs).flatten dps=some us) (hl:us.length=n*m) (hn:n*m≤16777216) (hm:0<n*m)
 (hg:gd ops ⟨dst,.buildSlice U n ps,ty,pos,af,g⟩ T=some true):Sem P ops ⟨dst,.buildSlice U n ps,ty,pos,af,g⟩ T B (.r (.v (.c (.s n us)))):=by
 have h:=oM (B:=B) hU hp hf hn hm hg
 refine⟨pS rfl,fun V β a w hs=>?_⟩
 obtain⟨hw,hg⟩:=h V β a w hs
 refine⟨hw,hg.mono ?_⟩
 rintro v w' ⟨vs,rfl,rfl,hr⟩
 refine⟨?_,(eQ _ w).alloc (cg _) _⟩
 have hkeep:=Keep.below (av:=V) ((eQ w.heap.size w).alloc (cg _) (.cells vs e))
 have hr2:=hr.keep hkeep
 have hvl:vs.size=n*m:=by have:=hr.1;rw[hl] at this;simpa using this
 have hn0:0<n:=by grind
 have hm0:0<m:=by grind
 have hnm:n≤n*m:=Nat.le_mul_of_pos_right n hm0
 refine .s w.heap.size 0 n m n _ (fun j=>vs.getD j undef) hn0 (cg _) (by omega) hl (by simp) (fun h=>by have:=hs.av _ h;omega) (fun j hj=>?_) (fun j u hj=>?_)
 ·simp_all
 ·have hlt:j<n*m:=by have:=(jf.1 hj).1;omega
  refine hr2.2 j _ u ?_ hj
  have:j<vs.size:=by omega
  simp[Array.getD,this]
theorem a8 {o:Oper}{b c:Bool}(h:Sem P ops o T B (.r (.v (.c (.b b))))) (e:b=c):Sem P ops o T B (.r (.v (.c (.b c)))):=by subst e;exact h
theorem fX {a b:Int}(h0: -9223372036854775808≤a*b) (h1:a*b≤9223372036854775807):Do .mul .i64 a b=some (a*b):=congrArg some (pK h0 h1)
section
variable {P:Program}{f:FuncId}{ds rs:List D0}{x y z u v x' y' z' u' v':Rat}
theorem jJ (h:Ok P f ds [dR x]) (e:x=x'):Ok P f ds [dR x']:=by subst e;exact h
theorem CK (h:Ok P f ds [.a (cR x++cR y++cR z)]) (e1:x=x') (e2:y=y') (e3:z=z'):Ok P f ds [.a (cR x'++cR y'++cR z')]:=by subst e1 e2 e3;exact h
theorem Fo {rs:List D0}(h:Ok P f ds (.a (cR x++cR y++cR z++cR u++cR v)::rs)) (e1:x=x') (e2:y=y') (e3:z=z') (e4:u=u') (e5:v=v'):Ok P f ds (.a (cR x'++cR y'++cR z'++cR u'++cR v')::rs):=by grind
theorem fp {b c:Bool}(h:Ok P f ds [.c (.b b)]) (e:b=c):Ok P f ds [.c (.b c)]:=by subst e;exact h
theorem cA {b c:Int}(h:Ok P f ds [.c (.i .i64 b)]) (e:b=c):Ok P f ds [.c (.i .i64 c)]:=by subst e;exact h
end
theorem y5:aM x y≤0↔x≤y:=by
 unfold aM
 split
 ·rename_i h;exact⟨fun _=>by grind,fun _=>by omega⟩
 ·split
  ·rename_i h;exact⟨fun h2=>by omega,fun h2=>by grind⟩
  ·rename_i h1 h2;exact⟨fun _=>by grind,fun _=>by omega⟩
theorem Lj:aM x y≥0↔y≤x:=by
 unfold aM
 split
 ·rename_i h;exact⟨fun _=>by omega,fun _=>by grind⟩
 ·split
  ·rename_i h;exact⟨fun h2=>by grind,fun h2=>by omega⟩
  ·rename_i h1 h2;exact⟨fun _=>by grind,fun _=>by omega⟩
theorem Rz.num (h0: -9223372036854775808≤n) (h1:n≤9223372036854775807):Rz 3 (n:Rat):=eG (dS (by decide) h0 h1) (by decide)
def zc (b c:Rat):Rat:=if b=0 then 0 else c
def Np (b1 b2 c:Rat):Rat:=if b1=0∧b2=0 then 0 else c
theorem F6 (h:b=0):zc b c=0:=by unfold zc;rw[if_pos h]
theorem oY (h:b≠0):zc b c=c:=by unfold zc;rw[if_neg h]
theorem MC (h:b1=0) (h2:b2=0):Np b1 b2 c=0:=by unfold Np;rw[if_pos ⟨h,h2⟩]
theorem Sh (h:b1≠0):Np b1 b2 c=c:=by unfold Np;rw[if_neg (fun e=>h e.1)]
theorem KM (h:b2≠0):Np b1 b2 c=c:=by unfold Np;rw[if_neg (fun e=>h e.2)]
theorem q9 (h:(aM x 0==0)=true):x=0:=GJ h
theorem o6 (h:(aM x 0==0)=false):x≠0:=fun e=>by rw[ni.2 e] at h;cases h
theorem Ip (h:(aM x y !=0)=true):x≠y:=fun e=>by rw[ni.2 e] at h;cases h
theorem Lc:(0:Rat)=((0:Int):Rat):=rfl
def WQ (b1 c1 b2 c2:Rat):Prop:=b1≠0∧b2≠0∧c1≠c2
def cc (b1 c1 c2:Rat):Rat:=if b1=0 then c2 else c1
theorem Fv (h:b1=0):cc b1 c1 c2=c2:=by unfold cc;rw[if_pos h]
theorem AT (h:b1≠0):cc b1 c1 c2=c1:=by unfold cc;rw[if_neg h]
def uU (b1 b2 c:Rat):Bool:=if b1=0∧b2=0 then decide (c=0) else decide (0<c)&& !je c
theorem acl:(aM x 0==0)=decide (x=0):=by rw[xE,beq_iff_eq,decide_eq_true_eq,ni]
theorem WN:decide (aM x 0>0)=decide (0<x):=by rw[xE,decide_eq_true_eq,decide_eq_true_eq];exact Aa
theorem ab2 (h:(aM b1 0==0)=true) (h2:(aM b2 0==0)=true):uU b1 b2 c=(aM c 0==0):=by
 unfold uU;rw[if_pos ⟨q9 h,q9 h2⟩,acl]
theorem V4 (h:(aM b1 0==0)=false):uU b1 b2 c=(decide (aM c 0>0)&& !je c):=by
 unfold uU;rw[if_neg (fun e=>o6 h e.1),WN]
theorem V9 (h:(aM b2 0==0)=false):uU b1 b2 c=(decide (aM c 0>0)&& !je c):=by
 unfold uU;rw[if_neg (fun e=>o6 h e.2),WN]
def zP:List CellD:=[.b false,.s 0 [],.b false,.s 0 [],.b false,.s 0 [],.b false,.s 0 [],.b false,.s 0 [],.b false,.s 0 [],.b false,.s 0 [],.b false,.s 0 [],.b false,.s 0 [],.b false,.s 0 []]
theorem Uh {x y:Int}(hx:Sz 5000000 x) (hy:Sz 5000000 y):Ok Tryz.prog 21 [dQ x y] [.c (.b (vQ x y))]:=by
 have hx1:Sz 10000000 x:=hx.m_
 have hy1:Sz 10000000 y:=hy.m_
 refine bX Tryz.func21 rfl ?_
 refine ac rfl (Jp (by assumption)) ?_
 refine ar (bE rfl) ?_
 refine ac rfl (Jp (by assumption)) ?_
 refine ar (bE rfl) ?_
 refine ac rfl (yP) ?_
 refine dk rfl (fun hc1=>?_) (fun hc1=>?_)
 ·refine ah ?_
  rw[abL hc1]
  exact az ae
 ·have hgc:Sz 100000000 ((Int.gcd x y:Nat):Int):=(Sz.gcd (x:=x) hy (acb hc1)).m_
  refine ac rfl (FA (er hx) (er hy))<|ac rfl (Ic)<|ac rfl (zN (Q9) (er (dS (k:=3) (by decide) (by decide) (by decide))))<|ah ?_
  rw[ab8 hc1]
  exact az ae
theorem kh (hx:Rz 5000000 x):Ok Tryz.prog 21 [dR x] [.c (.b true)]:=by
 have:=Uh hx.n hx.d
 rw[acA] at this;exact this
theorem ts:Ok Tryz.prog 317 [] [dR 0]:=by
 refine bX Tryz.func317 rfl<|ac rfl (f7 (by omega) (by omega)) ?_
 refine ah ?_
 rw[Lc]
 exact aS aZ rfl ae
theorem DS:Ok Tryz.prog 230 [dR a,dR b,dR c] [.a ((cR a++cR b++cR (zc b c)))]:=by
 refine bX Tryz.func230 rfl<|ac rfl (kH) ?_
 refine dk rfl (fun hc1=>?_) (fun hc1=>?_)
 ·refine ac rfl (ts) ?_
  refine ar (aG (us:=(cR a++cR b++cR 0)) lU jL rfl rfl rfl) ?_
  refine ah ?_
  rw[F6 (q9 hc1)]
  exact aS df rfl ae
 ·refine ar (aG (us:=(cR a++cR b++cR c)) lU jL rfl rfl rfl) ?_
  refine ah ?_
  rw[oY (o6 hc1)]
  exact aS df rfl ae
theorem qc:Ok Tryz.prog 127 [.a ((cR a1++cR b1++cR a2++cR b2++cR c))] [.a ((cR a1++cR b1++cR (zc b1 c)))]:=by
 refine bX Tryz.func127 rfl<|ac rfl (DS) ?_
 exact ah (aS df rfl ae)
theorem Kz:Ok Tryz.prog 140 [.a ((cR a1++cR b1++cR a2++cR b2++cR c))] [.a ((cR a2++cR b2++cR (zc b2 c)))]:=by
 refine bX Tryz.func140 rfl<|ac rfl (DS) ?_
 exact ah (aS df rfl ae)
theorem uy:Ok Tryz.prog 235 [.a ((cR a1++cR b1++cR a2++cR b2++cR c))] [.a ((cR a1++cR b1++cR a2++cR b2++cR (Np b1 b2 c)))]:=by
 refine bX Tryz.func235 rfl<|ac rfl (kH) ?_
 refine jU (bE rfl) (fun c1 hb1=>?_)
 cases c1
 ·refine sb rfl<|ah ?_
  rw[Sh (o6 hb1)]
  exact aS bq rfl ae
 ·refine ac rfl (kH) ?_
  refine dk rfl (fun hc2=>?_) (fun hc2=>?_)
  ·refine ac rfl (ts) ?_
   refine pu (aY (us:=(cR a1++cR b1++cR a2++cR b2++cR 0)) aZ rfl rfl rfl rfl (fe rfl) rfl rfl) ?_
   refine ah ?_
   rw[MC (q9 hb1) (q9 hc2)]
   exact aS bq rfl ae
  ·refine ah ?_
   rw[KM (o6 hc2)]
   exact aS bq rfl ae
theorem Tj:Ok Tryz.prog 300 [.a ((cR v++cR w))] [.a ((cR v++cR 0++cR w++cR 0++cR 0))]:=by
 refine eo Tryz.func300 11 [.cell 2 47] rfl<|aa<|ag<|aa<|lX 8 rfl rfl<|cn 1<|ba (d5 (cR v) aZ rfl)<|ba (cb rfl (ts))<|cn 1<|ba (d5 (cR w) aZ rfl)<|ba (cb rfl (ts))<|ba (cb rfl (ts))<|ba (aG (us:=(cR v++cR 0++cR w++cR 0++cR 0)) Ef Ac rfl rfl rfl) ?_
 refine ln<|dG<|ed<|a7 ?_
 exact ah (aS bq rfl ae)
theorem wV:Ok Tryz.prog 77 [] [dR 0]:=by
 refine bX Tryz.func77 rfl<|ac rfl (d8 (by omega) (by omega)) ?_
 refine ah ?_
 rw[Lc]
 exact aS aZ rfl ae
theorem E4:Ok Tryz.prog 286 [] [dR 0]:=by
 refine bX Tryz.func286 rfl<|ac rfl (d8 (by omega) (by omega)) ?_
 refine ah ?_
 rw[Lc]
 exact aS aZ rfl ae
theorem fu:Ok Tryz.prog 190 [dR a] [.a ((cR a++cR 0++cR 0))]:=by
 refine bX Tryz.func190 rfl<|cJ 4 [] ?_
 refine aK rfl (E4) ?_
 refine aK rfl (E4) ?_
 refine aq (aG (us:=(cR a++cR 0++cR 0)) lU jL rfl rfl rfl) ?_
 exact ah (aS df rfl ae)
theorem Dc:Ok Tryz.prog 272 [dR a,dR b,dR c] [.a ((cR a++cR b++cR (zc b c)))]:=by
 refine bX Tryz.func272 rfl<|ac rfl (jz) ?_
 refine dk rfl (fun hc1=>?_) (fun hc1=>?_)
 ·refine ac rfl (fu) ?_
  have e:=q9 hc1
  subst e
  refine ah ?_
  rw[F6 rfl]
  exact aS df rfl ae
 ·refine ar (aG (us:=(cR a++cR b++cR c)) lU jL rfl rfl rfl) ?_
  refine ah ?_
  rw[oY (o6 hc1)]
  exact aS df rfl ae
theorem pd:Ok Tryz.prog 149 [.a ((cR a1++cR b1++cR a2++cR b2++cR c))] [.a ((cR a1++cR b1++cR (zc b1 c)))]:=by
 refine bX Tryz.func149 rfl<|ac rfl (Dc) ?_
 exact ah (aS df rfl ae)
theorem GW:Ok Tryz.prog 150 [.a ((cR a1++cR b1++cR a2++cR b2++cR c))] [.a ((cR a2++cR b2++cR (zc b2 c)))]:=by
 refine bX Tryz.func150 rfl<|ac rfl (Dc) ?_
 exact ah (aS df rfl ae)
theorem kT:Ok Tryz.prog 340 [dR a1,dR b1,dR a2,dR b2,dR c] [.a ((cR a1++cR b1++cR a2++cR b2++cR (Np b1 b2 c)))]:=by
 refine eo Tryz.func340 26 [.cell 10 47] rfl<|aa<|ag<|aa<|aa<|ag ?_
 refine ac rfl (jz) ?_
 refine jU (bE rfl) (fun c1 hb1=>?_)
 cases c1
 ·refine bz rfl<|aA<|aa<|bm<|bU 5<|aU (aG (us:=(cR a1++cR b1++cR a2++cR b2++cR c)) Ef Ac rfl rfl rfl) ?_
  refine ed<|a7 ?_
  rw[Sh (o6 hb1)]
  exact ah (aS bq rfl ae)
 ·refine ac rfl (jz) ?_
  refine aJ rfl (fun hc2=>?_) (fun hc2=>?_)
  ·refine ag<|ac rfl (wV) ?_
   refine aa<|bm<|bU 5 ?_
   refine aU (aG (us:=(cR a1++cR b1++cR a2++cR b2++cR 0)) Ef Ac rfl rfl rfl) ?_
   refine ed<|a7 ?_
   rw[MC (q9 hb1) (q9 hc2)]
   exact ah (aS bq rfl ae)
  ·refine aA<|aa<|bm<|bU 5<|aU (aG (us:=(cR a1++cR b1++cR a2++cR b2++cR c)) Ef Ac rfl rfl rfl) ?_
   refine ed<|a7 ?_
   rw[KM (o6 hc2)]
   exact ah (aS bq rfl ae)
theorem BL:Ok Tryz.prog 23 [.a ((cR v++cR w))] [.a ((cR v++cR 0++cR w++cR 0++cR 0))]:=by
 refine eo Tryz.func23 11 [.cell 2 47] rfl<|aa<|ag<|aa<|lX 8 rfl rfl<|cn 1<|ba (d5 (cR v) aZ rfl)<|ba (cb rfl (wV))<|cn 1<|ba (d5 (cR w) aZ rfl)<|ba (cb rfl (wV))<|ba (cb rfl (wV))<|ba (aG (us:=(cR v++cR 0++cR w++cR 0++cR 0)) Ef Ac rfl rfl rfl) ?_
 refine ln<|dG<|ed<|a7 ?_
 exact ah (aS bq rfl ae)
def yd (x:Int):Bool:=decide (-9223372036854775808≤x)&&decide (x≤9223372036854775807)
theorem Xv {x:Int}(h:x< -9223372036854775808):yd x=false:=by unfold yd;rw[decide_eq_false (by omega)];rfl
theorem XW {x:Int}(h:9223372036854775807<x):yd x=false:=by unfold yd;rw[decide_eq_false (p:=x≤9223372036854775807) (by omega),nj]
theorem RC {x:Int}(h: ¬x< -9223372036854775808) (h2: ¬9223372036854775807<x):yd x=true:=by unfold yd;rw[decide_eq_true (by omega),decide_eq_true (by omega)];rfl
theorem UD {x:Int}:yd x=true↔ -9223372036854775808≤x∧x≤9223372036854775807:=by unfold yd;simp
theorem ZQ (h0:1≤r) (h1:r≤9223372036854775808):IntKind.u64.wrap (0-r)=18446744073709551616-r:=by unfold IntKind.wrap;simp[IntKind.bits,IntKind.signed];omega
theorem Yr (h0:1≤r) (h1:r≤9223372036854775808):IntKind.i64.wrap (18446744073709551616-r)= -r:=by unfold IntKind.wrap;simp[IntKind.bits,IntKind.signed];omega
theorem xn [Decidable p] (h:decide p=true):p:=by simpa using h
theorem pt [Decidable p] (h:decide p=false): ¬p:=by simpa using h
theorem fF {b:Bool}(h:(!b)=false):b=true:=by simpa using h
theorem jN {b:Bool}(h:(!b)=true):b=false:=by simpa using h
def xk (lo hi:Int):Bool:=decide (-2305843009213693952≤lo)&&decide (hi≤2305843009213693952)
theorem abZ (h:lo< -2305843009213693952):xk lo hi=false:=by unfold xk;rw[decide_eq_false (by omega)];rfl
theorem abJ (h:hi>2305843009213693952):xk lo hi=false:=by unfold xk;rw[decide_eq_false (p:=hi≤2305843009213693952) (by omega),nj]
theorem VQ (h: ¬lo< -2305843009213693952) (h2: ¬hi>2305843009213693952):xk lo hi=true:=by unfold xk;rw[decide_eq_true (by omega),decide_eq_true (by omega)];rfl
def jy (a:Rat):Int:=(a*((65536:Int):Rat)).num.fdiv ((a*((65536:Int):Rat)).den:Int)
def ji (a:Rat):Int:= -((-(a*((65536:Int):Rat))).num.fdiv ((-(a*((65536:Int):Rat))).den:Int))
def jj (a:Rat):Bool:=yd (jy a)&&(yd (ji a)&&xk (jy a) (ji a))
theorem Bb {x:Int}(hx:Sz 100000000 x):Ok Tryz.prog 322 [dI x] [.c (.i .i64 (if yd x then x else 0)),.c (.b (yd x))]:=by
 refine eo Tryz.func322 39 [.tmp 2,.tmp 3] rfl<|aa<|ag<|aa<|aa<|dC 10 [] ?_
 refine aK rfl (jb (by omega) (by omega))<|aK rfl (pN) ?_
 refine BD (bE rfl) (fun c1 hb1=>?_)
 cases c1
 ·refine aK rfl (jb (by omega) (by omega))<|aK rfl (pN) ?_
  refine aJ rfl (fun hc2=>?_) (fun hc2=>?_)
  ·refine aa<|ag<|a7 ?_
   rw[XW (ac5 hc2),if_neg (by decide)]
   exact ah (az (az ae))
  ·have hlo:=ZH hb1
   have hhi:=adX hc2
   have hln:=ig hx
   refine aA<|aa<|ag<|aa<|aa<|ag ?_
   refine ar (ci ((((dA x.natAbs).length:Int))-1) (bK (by(first|omega|(simp;omega))) (by(first|omega|(simp;omega)))) rfl) ?_
   refine aE<|bn (ι:={t:Nat×Int // ShInv (dA x.natAbs) t.1 t.2}) (fun i=>⟨39,[(1,.p 1 0),(4,.v (.c (.i .u64 i.1.2))),(5,.v (.c (.i .i64 ((i.1.1:Int)-1))))],[(1,36,cI x)]⟩) (fun i=>i.1.1) ⟨((dA x.natAbs).length,0),⟨Nat.le_refl _,qw 0,by rw[lI];simp⟩⟩ (ap ⟨rfl,rfl,rfl,trivial⟩ ⟨rfl,trivial⟩ rfl) ?_
   rintro⟨⟨j,r⟩,hI⟩
   replace hI:ShInv (dA x.natAbs) j r:=hI
   have g5:=hI.le
   have g3:=hI.r0
   have g4:=hI.bound (b8 _)
   rw[cr] at g4
   dsimp only
   refine aa<|aa<|ag ?_
   refine aJ rfl (fun hc3=>?_) (fun hc3=>?_)
   ·obtain⟨q,rfl⟩: ∃q,j=q+1:=⟨j-1,by have:=xn hc3;omega⟩
    have hS:=hI.step (b8 _)
    have hB:=hS.bound (b8 _)
    have g1:=dr (b8 x.natAbs) q
    rw[cr] at hB
    refine lh (σ':=⟨39,[(1,.p 1 0),(4,.v (.c (.i .u64 r))),(5,.v (.c (.i .i64 (q:Int))))],[(1,36,cI x)]⟩) (ap ⟨rfl,rfl,by rw[show(q:Int)=((q+1:Nat):Int)-1 from by omega];rfl,trivial⟩ ⟨rfl,trivial⟩ rfl) ?_
    refine aA<|aa<|aE<|ag ?_
    refine ar (ci (r*1000000000) (iu (by(first|omega|(simp;omega))) (by(first|omega|(simp;omega)))) rfl) ?_
    refine ar (bI jv rfl rfl (by(first|omega|(simp;omega))) (jx _) rfl rfl) ?_
    refine ar (b7 fN rfl (kX (i:=q) (by(first|omega|(simp;omega)))) rfl) ?_
    refine ar (bZ (r:=(dA x.natAbs).getD q 0) jF fQ rfl (iC (by(first|omega|(simp;omega))) (by(first|omega|(simp;omega)))) rfl) ?_
    refine ar (ci ((r*1000000000)+((dA x.natAbs).getD q 0)) (gh (by(first|omega|(simp;omega))) (by(first|omega|(simp;omega)))) rfl) ?_
    refine ag ?_
    refine ar (ci ((q:Int)-1) (bK (by(first|omega|(simp;omega))) (by(first|omega|(simp;omega)))) rfl) ?_
    exact⟨⟨(q,r*1000000000+(dA x.natAbs).getD q 0),hS⟩,ap ⟨rfl,rfl,rfl,trivial⟩ ⟨rfl,trivial⟩ rfl,by show q<q+1;omega⟩
   ·have hz:j=0:=by have:=pt hc3;omega
    have hfin:(x.natAbs:Int)=r:=by subst hz;have:=hI.v;rw[cr] at this;simp[val,tV] at this;omega
    refine bi<|aa<|aa<|ag ?_
    refine aJ rfl (fun hc4=>?_) (fun hc4=>?_)
    ·have hn:=xn hc4
     refine ag<|ar (fa (r:=18446744073709551616-r) rfl (ZQ (by omega) (by omega)) rfl) ?_
     refine aa<|ag<|ar (bZ (r:=x) fQ Ag rfl (by rw[Yr (by omega) (by omega)];omega) rfl) ?_
     refine a7 ?_
     rw[RC hlo hhi,if_pos rfl]
     exact ah (az (az ae))
    ·have hn:=pt hc4
     refine aA<|aa<|ag<|ar (bZ (r:=x) fQ Ag rfl (by rw[←hfin];rw[pK (by omega) (by omega)];omega) rfl) ?_
     refine a7 ?_
     rw[RC hlo hhi,if_pos rfl]
     exact ah (az (az ae))
 ·refine dO rfl<|aa<|ag<|a7 ?_
  rw[Xv (Y2 hb1),if_neg (by decide)]
  exact ah (az (az ae))
theorem uw {x y:Int}:Ok Tryz.prog 324 [.c (.i .i64 x),.c (.i .i64 y)] [.a (([.i .i64 (if xk x y then x else 0)]++[.i .i64 (if xk x y then y else 0)])),.c (.b (xk x y))]:=by
 refine bX Tryz.func324 rfl ?_
 refine jU (bE rfl) (fun c1 hb1=>?_)
 cases c1
 ·refine dk rfl (fun hc2=>?_) (fun hc2=>?_)
  ·refine ar (aG (us:=([.i .i64 0]++[.i .i64 0])) ry qk rfl rfl rfl) ?_
   refine ah ?_
   rw[abJ (xn hc2),if_neg (by decide),if_neg (by decide)]
   exact aS jW rfl (az ae)
  ·refine ar (aG (us:=([.i .i64 x]++[.i .i64 y])) ry qk rfl rfl rfl) ?_
   refine ah ?_
   rw[VQ (pt hb1) (pt hc2),if_pos rfl,if_pos rfl]
   exact aS jW rfl (az ae)
 ·refine sy rfl<|ar (aG (us:=([.i .i64 0]++[.i .i64 0])) ry qk rfl rfl rfl) ?_
  refine ah ?_
  rw[abZ (xn hb1),if_neg (by decide),if_neg (by decide)]
  exact aS jW rfl (az ae)
def sx (s t c:Int):Int:=if t=0∨s=t then s else if s=0 then t else s*c
def bF (a b m:Rat):Int:=sx (aM a 0) (aM b 0*aM m 0) (aM (a*a) (b*b*m))
def EM (A B C D M N:Rat):Rat:=A*A+B*B*M-N*(C*C+D*D*M)
def xC (A B C D N:Rat):Rat:=A*B-N*(C*D)
def fD (A B C D M N:Rat):Int:=if M<0∨N<0 then 0 else sx (bF A B M) (bF C D M*aM N 0) (bF (EM A B C D M N) (xC A B C D N+xC A B C D N) M)
theorem yC {c:Int}(h:(s==0)=true):sx s t c=t:=by
 unfold sx
 grind
theorem yZ {c:Int}(h:(t==0)=true):sx s t c=s:=by
 have h:t=0:=by grind
 unfold sx;rw[if_pos (.inl h)]
theorem zq {c:Int}(h:(s==t)=true):sx s t c=s:=by
 have h:s=t:=by grind
 unfold sx;rw[if_pos (.inr h)]
theorem zX {c:Int}(h1:(s==0)=false) (h2:(t==0)=false) (h3:(s==t)=false):sx s t c=s*c:=by
 have h1:s≠0:=by grind
 have h2:t≠0:=by grind
 have h3:s≠t:=by grind
 unfold sx;rw[if_neg (by omega),if_neg h1]
theorem d6 (x y:Rat): -1≤aM x y∧aM x y≤1:=by
 unfold aM
 split
 ·omega
 ·split<;>omega
theorem jO (h: -1≤s∧s≤1) (h': -1≤t∧t≤1): -1≤s*t∧s*t≤1:=by
 have hs:s= -1∨s=0∨s=1:=by omega
 grind
theorem Lf {c:Int}(h: -1≤s∧s≤1) (h': -1≤t∧t≤1) (h2: -1≤c∧c≤1): -1≤sx s t c∧sx s t c≤1:=by
 unfold sx
 split
 ·exact h
 ·split
  ·grind
  ·exact jO h h2
theorem ip (a b m:Rat): -1≤bF a b m∧bF a b m≤1:=Lf (d6 _ _) (jO (d6 _ _) (d6 _ _)) (d6 _ _)
theorem Gb (h:decide (aM x 0<0)=true):x<0:=IW.1 (by simpa using h)
theorem Cu (h:decide (aM x 0<0)=false): ¬x<0:=fun e=>by have:=IW.2 e;simp at h;omega
theorem Fq {B:Rat}(h:M<0∨N<0):fD A B C D M N=0:=by unfold fD;rw[if_pos h]
theorem wx {B:Rat}(h: ¬M<0) (h': ¬N<0):fD A B C D M N=sx (bF A B M) (bF C D M*aM N 0) (bF (EM A B C D M N) (xC A B C D N+xC A B C D N) M):=by
 unfold fD;rw[if_neg (fun e=>e.elim h h')]
theorem qH {m:Rat}(ha:Rz 2000000 a) (hb:Rz 2000000 b) (hm:Rz 2000000 m):Ok Tryz.prog 254 [dR a,dR b,dR m] [.c (.i .i64 (bF a b m))]:=by
 have ka:Rz 6000000 a:=ha.m_
 have kb:Rz 6000000 b:=hb.m_
 have hp:=jO (d6 b 0) (d6 m 0)
 have hp2:=jO (d6 a 0) (d6 (a*a) (b*b*m))
 refine bX Tryz.func254 rfl<|cJ 9 [] ?_
 refine aK rfl (cK) ?_
 refine aK rfl (cK) ?_
 refine aK rfl (cK) ?_
 refine aq (ci ((aM b 0)*(aM m 0)) (fX (by omega) (by omega)) rfl) ?_
 refine jU (bE rfl) (fun c1 hb1=>?_)
 cases c1
 ·refine dk rfl (fun hc2=>?_) (fun hc2=>?_)
  ·refine ah ?_
   unfold bF
   rw[zq hc2]
   exact az ae
  ·refine dk rfl (fun hc3=>?_) (fun hc3=>?_)
   ·refine ah ?_
    unfold bF
    rw[yC hc3]
    exact az ae
   ·refine cJ 12 [] ?_
    refine aK rfl (cX (aO ha) (aO ha)) ?_
    refine aK rfl (cX (aO hb) (aO hb)) ?_
    refine aK rfl (cX (aO (aP hb hb)) (aO hm)) ?_
    refine aK rfl (l6 (aO (aP ha ha)) (aO (aP (aP hb hb) hm))) ?_
    refine aq (ci ((aM a 0)*(aM (a*a) ((b*b)*m))) (fX (by omega) (by omega)) rfl)<|ah ?_
    unfold bF
    rw[zX hc3 hb1 hc2]
    exact az ae
 ·refine sy rfl<|ah ?_
  unfold bF
  rw[yZ hb1]
  exact az ae
theorem vN {m:Rat}(ha:Rz 2000000 a) (hb:Rz 2000000 b) (hm:Rz 2000000 m):Ok Tryz.prog 182 [dR a,dR b,dR m] [.c (.i .i64 (bF a b m))]:=by
 have ka:Rz 6000000 a:=ha.m_
 have kb:Rz 6000000 b:=hb.m_
 have hp:=jO (d6 b 0) (d6 m 0)
 have hp2:=jO (d6 a 0) (d6 (a*a) (b*b*m))
 refine bX Tryz.func182 rfl<|cJ 9 [] ?_
 refine aK rfl (dm) ?_
 refine aK rfl (dm) ?_
 refine aK rfl (dm) ?_
 refine aq (ci ((aM b 0)*(aM m 0)) (fX (by omega) (by omega)) rfl) ?_
 refine jU (bE rfl) (fun c1 hb1=>?_)
 cases c1
 ·refine jU (bE rfl) (fun c2 hb2=>?_)
  cases c2
  ·refine dk rfl (fun hc3=>?_) (fun hc3=>?_)
   ·refine dk rfl (fun hc4=>?_) (fun hc4=>?_)
    ·exact absurd hc4 (by rw[hb1];decide)
    ·refine ah ?_
     unfold bF
     rw[zq hc3]
     exact az ae
   ·refine cJ 12 [] ?_
    refine aK rfl (co (aO ha) (aO ha)) ?_
    refine aK rfl (co (aO hb) (aO hb)) ?_
    refine aK rfl (co (aO (aP hb hb)) (aO hm)) ?_
    refine aK rfl (qy (aO (aP ha ha)) (aO (aP (aP hb hb) hm))) ?_
    refine aq (ci ((aM a 0)*(aM (a*a) ((b*b)*m))) (fX (by omega) (by omega)) rfl)<|ah ?_
    unfold bF
    rw[zX hb1 hb2 hc3]
    exact az ae
  ·refine sy rfl ?_
   refine dk rfl (fun hc5=>?_) (fun hc5=>?_)
   ·exact absurd hc5 (by rw[hb1];decide)
   ·refine ah ?_
    unfold bF
    rw[yZ hb2]
    exact az ae
 ·refine ar (bE rfl)<|sy rfl ?_
  refine dk rfl (fun hc6=>?_) (fun hc6=>?_)
  ·refine ah ?_
   unfold bF
   rw[yC hb1]
   exact az ae
  ·exact absurd hb1 (by rw[hc6];decide)
theorem AY {B:Rat}(hA:Rz 160000 A) (hB:Rz 160000 B) (hC:Rz 160000 C) (hD:Rz 160000 D) (hM:Rz 160000 M) (hN:Rz 160000 N):Ok Tryz.prog 157 [.a ((cR A++cR B++cR C++cR D++cR M++cR N))] [.c (.i .i64 (fD A B C D M N))]:=by
 have z1:=jO (ip C D M) (d6 N 0)
 have z2:=jO (ip A B M) (ip (A*A+B*B*M-N*(C*C+D*D*M)) ((A*B-N*(C*D))+(A*B-N*(C*D))) M)
 refine bX Tryz.func157 rfl ?_
 refine ac rfl (dm) ?_
 refine jU (bE rfl) (fun c1 hb1=>?_)
 cases c1
 ·have n1:=Cu hb1
  refine ac rfl (dm) ?_
  refine dk rfl (fun hc2=>?_) (fun hc2=>?_)
  ·refine ah ?_
   rw[Fq (.inr (Gb hc2))]
   exact az ae
  ·have n2:=Cu hc2
   refine cJ 20 [] ?_
   refine aK rfl (vN (aO hA) (aO hB) (aO hM)) ?_
   refine aK rfl (vN (aO hC) (aO hD) (aO hM)) ?_
   refine aK rfl (dm) ?_
   refine aq (ci ((bF C D M)*(aM N 0)) (fX (by omega) (by omega)) rfl) ?_
   refine jU (bE rfl) (fun c3 hb3=>?_)
   cases c3
   ·refine jU (bE rfl) (fun c4 hb4=>?_)
    cases c4
    ·refine dk rfl (fun hc5=>?_) (fun hc5=>?_)
     ·refine dk rfl (fun hc6=>?_) (fun hc6=>?_)
      ·exact absurd hc6 (by rw[hb3];decide)
      ·refine ah ?_
       rw[wx n1 n2,zq hc5]
       exact az ae
     ·refine cJ 18 [] ?_
      refine aK rfl (co (aO hC) (aO hC)) ?_
      refine aK rfl (co (aO hD) (aO hD)) ?_
      refine aK rfl (co (aO (aP hD hD)) (aO hM)) ?_
      refine aK rfl (cS (aO (aP hC hC)) (aO (aP (aP hD hD) hM))) ?_
      refine aK rfl (co (aO hN) (aO (gj (aP hC hC) (aP (aP hD hD) hM))))<|cJ 17 [] ?_
      refine aK rfl (co (aO hA) (aO hA)) ?_
      refine aK rfl (co (aO hB) (aO hB)) ?_
      refine aK rfl (co (aO (aP hB hB)) (aO hM)) ?_
      refine aK rfl (cS (aO (aP hA hA)) (aO (aP (aP hB hB) hM))) ?_
      refine aK rfl (dM (aO (gj (aP hA hA) (aP (aP hB hB) hM))) (aO (aP hN (gj (aP hC hC) (aP (aP hD hD) hM)))))<|cJ 15 [] ?_
      refine aK rfl (co (aO hA) (aO hB)) ?_
      refine aK rfl (co (aO hC) (aO hD))<|aK rfl (co (aO hN) (aO (aP hC hD)))<|aK rfl (dM (aO (aP hA hB)) (aO (aP hN (aP hC hD))))<|cJ 10 [] ?_
      refine aK rfl (cS (aO (cT (aP hA hB) (aP hN (aP hC hD)))) (aO (cT (aP hA hB) (aP hN (aP hC hD))))) ?_
      refine aK rfl (vN (aO (cT (gj (aP hA hA) (aP (aP hB hB) hM)) (aP hN (gj (aP hC hC) (aP (aP hD hD) hM))))) (aO (gj (cT (aP hA hB) (aP hN (aP hC hD))) (cT (aP hA hB) (aP hN (aP hC hD))))) (aO hM)) ?_
      refine aq (ci ((bF A B M)*(bF (((A*A)+((B*B)*M))-(N*((C*C)+((D*D)*M)))) (((A*B)-(N*(C*D)))+((A*B)-(N*(C*D)))) M)) (fX (by omega) (by omega)) rfl)<|ah ?_
      rw[wx n1 n2,zX hb3 hb4 hc5]
      exact az ae
    ·refine sy rfl ?_
     refine dk rfl (fun hc7=>?_) (fun hc7=>?_)
     ·exact absurd hc7 (by rw[hb3];decide)
     ·refine ah ?_
      rw[wx n1 n2,yZ hb4]
      exact az ae
   ·refine ar (bE rfl)<|sy rfl ?_
    refine dk rfl (fun hc8=>?_) (fun hc8=>?_)
    ·refine ah ?_
     rw[wx n1 n2,yC hb3]
     exact az ae
    ·exact absurd hb3 (by rw[hc8];decide)
 ·refine sy rfl<|ah ?_
  rw[Fq (.inl (Gb hb1))]
  exact az ae
theorem Qt (ha:Rz 6000000 a) (_hb:Rz 6000000 b) (hd:Rz 6000000 d) (he:Rz 6000000 e):Ok Tryz.prog 181 [.a ((cR a++cR b++cR c)),.a ((cR d++cR e++cR f))] [.a ((cR (a-d)++cR b++cR (-e)++cR 0++cR c++cR f))]:=by
 refine eo Tryz.func181 21 [.cell 4 186] rfl<|aa<|ag<|aa<|lX 16 rfl rfl<|cn 1<|ba (d5 (cR a) aZ rfl)<|cn 1<|ba (d5 (cR d) aZ rfl)<|ba (cb rfl (dM (aO ha) (aO hd)))<|cn 1<|ba (d5 (cR b) aZ rfl)<|cn 1<|ba (d5 (cR e) aZ rfl) ?_
 refine ba (cb rfl (iy (aO he)))<|ba (cb rfl ((show Ok Tryz.prog 18 [.c (.i .i64 0)] [dR 0] from eE (by omega) (by omega))))<|cn 1<|ba (d5 (cR c) aZ rfl)<|cn 1<|ba (d5 (cR f) aZ rfl)<|ba (aG (us:=(cR (a-d)++cR b++cR (-e)++cR 0++cR c++cR f)) DA yR rfl rfl rfl) ?_
 refine ln<|dG<|ed<|a7 ?_
 exact ah (aS DJ rfl ae)
theorem zZ (ha:Rz 60000 a) (hb:Rz 60000 b) (hc:Rz 60000 c) (hd:Rz 60000 d) (he:Rz 60000 e) (hf:Rz 60000 f):Ok Tryz.prog 83 [.a ((cR a++cR b++cR c)),.a ((cR d++cR e++cR f))] [.c (.i .i64 (fD (a-d) b (-e) 0 c f))]:=by
 have ka:Rz 6000000 a:=ha.m_
 have ma:Rz 160000 a:=ha.m_
 have kb:Rz 6000000 b:=hb.m_
 have mb:Rz 160000 b:=hb.m_
 have kc:Rz 6000000 c:=hc.m_
 have mc:Rz 160000 c:=hc.m_
 have kd:Rz 6000000 d:=hd.m_
 have md:Rz 160000 d:=hd.m_
 have ke:Rz 6000000 e:=he.m_
 have me:Rz 160000 e:=he.m_
 have kf:Rz 6000000 f:=hf.m_
 have mf:Rz 160000 f:=hf.m_
 have m1:Rz 160000 (a-d):=(ha.sub hd).m_
 have m2:Rz 160000 (-e):=me.neg
 have m0:Rz 160000 (0:Rat):=eG (n:=0) (dS (by decide) (by decide) (by decide)) (by decide)
 refine bX Tryz.func83 rfl ?_
 refine ac rfl (Qt (by assumption) (by assumption) (by assumption) (by assumption)) ?_
 refine ac rfl (AY (by assumption) (by assumption) (by assumption) (by assumption) (by assumption) (by assumption)) ?_
 exact ah (az ae)
theorem vW (ha:Rz 6000000 a):Ok Tryz.prog 333 [dR a] [dR a]:=by
 refine bX Tryz.func333 rfl<|ac rfl (dX (aO ha))<|ac rfl (dX (aO (l5 ha))) ?_
 have hfin:dR a=dR (-(-a)):=by rw[Rat.neg_neg]
 refine ah ?_
 rw[hfin]
 exact aS aZ rfl ae
theorem Id (ha:Rz 6000000 a) (hb:Rz 6000000 b) (hc:Rz 6000000 c) (hd:Rz 6000000 d) (he:Rz 6000000 e) (hf:Rz 6000000 f):Ok Tryz.prog 256 [.a ((cR a++cR b++cR c)),.a ((cR d++cR e++cR f))] [.a ((cR (a-d)++cR b++cR (-e)++cR 0++cR c++cR f))]:=by
 refine eo Tryz.func256 24 [.cell 4 186] rfl<|aa<|ag<|aa<|lX 19 rfl rfl<|cn 1<|ba (d5 (cR a) aZ rfl)<|cn 1<|ba (d5 (cR d) aZ rfl)<|ba (cb rfl (eZ (aO ha) (aO hd)))<|cn 1<|ba (d5 (cR b) aZ rfl)<|ba (cb rfl (vW (aO hb)))<|cn 1 ?_
 refine ba (d5 (cR e) aZ rfl)<|ba (cb rfl (dX (aO he)))<|ba (cb rfl ((show Ok Tryz.prog 70 [.c (.i .i64 0)] [dR 0] from gT (by omega) (by omega))))<|cn 1<|ba (d5 (cR c) aZ rfl)<|ba (cb rfl (vW (aO hc)))<|cn 1<|ba (d5 (cR f) aZ rfl)<|ba (cb rfl (vW (aO hf)))<|ba (aG (us:=(cR (a-d)++cR b++cR (-e)++cR 0++cR c++cR f)) DA yR rfl rfl rfl) ?_
 refine ln<|dG<|ed<|a7 ?_
 exact ah (aS DJ rfl ae)
def rB (b c:Rat):Rat:=if b=0∨c=0 then 0 else b
def rC (b c:Rat):Rat:=if b=0∨c=0 then 0 else c
theorem TO (h:b=0∨c=0):rB b c=0:=by unfold rB;rw[if_pos h]
theorem TK (h:b=0∨c=0):rC b c=0:=by unfold rC;rw[if_pos h]
theorem ack (h:b≠0) (h':c≠0):rB b c=b:=by unfold rB;rw[if_neg (fun e=>e.elim h h')]
theorem adp (h:b≠0) (h':c≠0):rC b c=c:=by unfold rC;rw[if_neg (fun e=>e.elim h h')]
def s3 (a b c:Rat):Int:=if aM a 0=aM b 0∨aM b 0=0 then aM a 0 else if aM a 0=0 then aM b 0 else if 0<a*a-b*b*c then aM a 0 else aM b 0
theorem adb (h:(aM a 0==aM b 0)=true):s3 a b c=aM a 0:=by unfold s3;rw[if_pos (.inl (by simpa using h))]
theorem abw (h:(aM b 0==0)=true):s3 a b c=aM a 0:=by unfold s3;rw[if_pos (.inr (by simpa using h))]
theorem YV (h:(aM a 0==aM b 0)=false) (h2:(aM b 0==0)=false):s3 a b c=if aM a 0=0 then aM b 0 else if 0<a*a-b*b*c then aM a 0 else aM b 0:=by
 unfold s3;rw[if_neg (fun e=>e.elim (by simpa using h) (by simpa using h2))]
theorem adH (h:decide (aM x 0>0)=true):0<x:=Aa.1 (by simpa using h)
theorem abn (h:decide (aM x 0>0)=false): ¬0<x:=fun e=>by have:=Aa.2 e;simp at h;omega
theorem adK (h:(s==t)=true):s=t:=by simpa using h
theorem abI (h:(s==t)=false):s≠t:=by simpa using h
theorem Yi (hf: ¬WQ b c e f) (h1:b≠0) (h2:e≠0):(aM c f==0)=true:=by
 rw[r_eqb']
 exact gg fun h=>hf ⟨h1,h2,h⟩
where
 r_eqb' {x y:Rat}:((aM x y==0)=true)=(x=y):=by rw[beq_iff_eq];exact propext ni
theorem yQ (ha:Rz 6000000 a):Ok Tryz.prog 370 [dR a] [dR (a*a)]:=by
 refine bX Tryz.func370 rfl<|ac rfl (co (aO ha) (aO ha)) ?_
 exact ah (aS aZ rfl ae)
theorem KB (ha:Rz 1000000 a) (hb:Rz 1000000 b) (hc:Rz 1000000 c):Ok Tryz.prog 334 [.a ((cR a++cR b++cR c))] [dR (a*a-b*b*c)]:=by
 have ka:Rz 6000000 a:=ha.m_
 have kb:Rz 6000000 b:=hb.m_
 have kc:Rz 6000000 c:=hc.m_
 refine bX Tryz.func334 rfl<|cJ 10 [] ?_
 refine aK rfl (yQ (aO ha)) ?_
 refine aK rfl (yQ (aO hb)) ?_
 refine aK rfl (co (aO (aP hb hb)) (aO hc)) ?_
 refine aK rfl (dM (aO (aP ha ha)) (aO (aP (aP hb hb) hc))) ?_
 exact ah (aS aZ rfl ae)
theorem CN (ha:Rz 1000000 a) (hb:Rz 1000000 b) (hc:Rz 1000000 c):Ok Tryz.prog 266 [.a ((cR a++cR b++cR c))] [.c (.i .i64 (s3 a b c))]:=by
 refine bX Tryz.func266 rfl<|cJ 8 [] ?_
 refine aK rfl (dm) ?_
 refine aK rfl (dm) ?_
 refine jU (bE rfl) (fun c1 hb1=>?_)
 cases c1
 ·refine dk rfl (fun hc2=>?_) (fun hc2=>?_)
  ·refine ah ?_
   rw[abw hc2]
   exact az ae
  ·refine dk rfl (fun hc3=>?_) (fun hc3=>?_)
   ·refine ah ?_
    rw[YV hb1 hc2,if_pos (adK hc3)]
    exact az ae
   ·refine ac rfl (KB (by assumption) (by assumption) (by assumption))<|ac rfl (dm) ?_
    refine dk rfl (fun hc4=>?_) (fun hc4=>?_)
    ·refine ah ?_
     rw[YV hb1 hc2,if_neg (abI hc3),if_pos (adH hc4)]
     exact az ae
    ·refine ah ?_
     rw[YV hb1 hc2,if_neg (abI hc3),if_neg (abn hc4)]
     exact az ae
 ·refine sy rfl<|ah ?_
  rw[adb hb1]
  exact az ae
theorem ud:Ok Tryz.prog 191 [dR a,dR b,dR c] [.a ((cR a++cR (rB b c)++cR (rC b c)))]:=by
 refine bX Tryz.func191 rfl<|ac rfl (jz) ?_
 refine jU (bE rfl) (fun c1 hb1=>?_)
 cases c1
 ·refine ac rfl (jz) ?_
  refine dk rfl (fun hc2=>?_) (fun hc2=>?_)
  ·refine ac rfl (fu) ?_
   refine ah ?_
   rw[TO (.inr (q9 hc2)),TK (.inr (q9 hc2))]
   exact aS df rfl ae
  ·refine ar (aG (us:=(cR a++cR b++cR c)) lU jL rfl rfl rfl) ?_
   refine ah ?_
   rw[ack (o6 hb1) (o6 hc2),adp (o6 hb1) (o6 hc2)]
   exact aS df rfl ae
 ·refine sy rfl ?_
  refine ac rfl (fu) ?_
  refine ah ?_
  rw[TO (.inl (q9 hb1)),TK (.inl (q9 hb1))]
  exact aS df rfl ae
theorem yE (hc:Rz 6000000 c) (hf:Rz 6000000 f) (hb: ¬WQ b c e f):Ok Tryz.prog 285 [.a ((cR a++cR b++cR c)),.a ((cR d++cR e++cR f))] [dR (cc b c f),.c (.b true)]:=by
 refine bX Tryz.func285 rfl<|ac rfl (dm) ?_
 refine dk rfl (fun hc1=>?_) (fun hc1=>?_)
 ·refine ah ?_
  rw[Fv (q9 hc1)]
  exact aS aZ rfl (az ae)
 ·refine cJ 16 [4,999999] ?_
  refine aK rfl (dm) ?_
  refine BD (bE rfl) (fun c2 hb2=>?_)
  cases c2
  ·refine aK rfl (qy (aO hc) (aO hf)) ?_
   refine DQ.mk<|iE (eh aZ rfl) rfl rfl rfl rfl<|dF ?_
   refine ah ?_
   rw[AT (o6 hc1),Yi hb (o6 hc1) (o6 hb2)]
   exact aS aZ rfl (az ae)
  ·refine DQ.mk<|Lw (eh aZ rfl) rfl rfl (by kernel_rfl) rfl<|dF ?_
   refine ah ?_
   rw[AT (o6 hc1)]
   exact aS aZ rfl (az ae)
theorem Nt (ha:Rz 1000000 a) (hb:Rz 1000000 b) (hc:Rz 1000000 c) (hd:Rz 1000000 d) (he:Rz 1000000 e) (hf:Rz 1000000 f) (hbad: ¬WQ b c e f):Ok Tryz.prog 189 [.a ((cR a++cR b++cR c)),.a ((cR d++cR e++cR f))] [.a ((cR (a+d)++cR (rB (b+e) (cc b c f))++cR (rC (b+e) (cc b c f)))),.c (.i .i64 0)]:=by
 have ka:Rz 6000000 a:=ha.m_
 have kb:Rz 6000000 b:=hb.m_
 have kc:Rz 6000000 c:=hc.m_
 have kd:Rz 6000000 d:=hd.m_
 have ke:Rz 6000000 e:=he.m_
 have kf:Rz 6000000 f:=hf.m_
 refine bX Tryz.func189 rfl<|ac rfl (yE (by assumption) (by assumption) (by assumption))<|sb rfl<|cJ 12 [] ?_
 refine aK rfl (cS (aO ha) (aO hd)) ?_
 refine aK rfl (cS (aO hb) (aO he)) ?_
 refine aK rfl (ud) ?_
 exact ah (aS df rfl (az ae))
theorem N2 (ha:Rz 1000000 a) (hb:Rz 1000000 b) (hc:Rz 1000000 c) (hd:Rz 1000000 d) (he:Rz 1000000 e) (hf:Rz 1000000 f) (hbad: ¬WQ b c e f):Ok Tryz.prog 183 [.a ((cR a++cR b++cR c)),.a ((cR d++cR e++cR f))] [.a ((cR (a*d+b*e*cc b c f)++cR (rB (a*e+b*d) (cc b c f))++cR (rC (a*e+b*d) (cc b c f)))),.c (.i .i64 0)]:=by
 have ka:Rz 6000000 a:=ha.m_
 have kb:Rz 6000000 b:=hb.m_
 have kc:Rz 6000000 c:=hc.m_
 have kd:Rz 6000000 d:=hd.m_
 have ke:Rz 6000000 e:=he.m_
 have kf:Rz 6000000 f:=hf.m_
 have hcc:Rz 1000000 (cc b c f):=by unfold cc;split<;>assumption
 have z1:Rz 6000000 (b*e):=(aP hb he).m_
 have z2:Rz 6000000 (cc b c f):=hcc.m_
 have z3:Rz 6000000 (b*e*cc b c f):=(aP (aP hb he) hcc).m_
 refine bX Tryz.func183 rfl<|ac rfl (yE (by assumption) (by assumption) (by assumption))<|sb rfl<|cJ 14 [] ?_
 refine aK rfl (co (by first|assumption|exact b4 ha (by decide)) (by first|assumption|exact b4 hd (by decide))) ?_
 refine aK rfl (co (by first|assumption|exact b4 hb (by decide)) (by first|assumption|exact b4 he (by decide))) ?_
 refine aK rfl (co (by first|assumption|exact b4 (aP hb he) (by decide)) (by first|assumption|exact b4 (by assumption) (by decide))) ?_
 refine aK rfl (cS (by first|assumption|exact b4 (aP ha hd) (by decide)) (by first|assumption|exact b4 (aP (aP hb he) (by assumption)) (by decide))) ?_
 refine cJ 12 [] ?_
 refine aK rfl (co (by first|assumption|exact b4 ha (by decide)) (by first|assumption|exact b4 he (by decide))) ?_
 refine aK rfl (co (by first|assumption|exact b4 hb (by decide)) (by first|assumption|exact b4 hd (by decide))) ?_
 refine aK rfl (cS (by first|assumption|exact b4 (aP ha he) (by decide)) (by first|assumption|exact b4 (aP hb hd) (by decide))) ?_
 refine ac rfl (ud) ?_
 exact ah (aS df rfl (az ae))
theorem GQ (ha:Rz 6000000 a) (hd:Rz 6000000 d):Ok Tryz.prog 335 [.a ((cR a++cR b++cR c)),dR d] [.a ((cR (a+d)++cR b++cR c))]:=by
 refine bX Tryz.func335 rfl<|cJ 9 [] ?_
 refine aK rfl (cS (aO ha) (aO hd)) ?_
 refine aq (aG (us:=(cR (a+d)++cR b++cR c)) lU jL rfl rfl rfl) ?_
 exact ah (aS df rfl ae)
theorem Jk {x y:Int}(h0: -9223372036854775808≤x) (h1:x≤9223372036854775807) (h2: -9223372036854775808≤y) (h3:y≤9223372036854775807):Ok Tryz.prog 24 [.c (.i .i64 x),.c (.i .i64 y)] [.a ((cR (((x:Int):Rat))++cR (((y:Int):Rat))))]:=by
 refine bX Tryz.func24 rfl<|ac rfl (d8 (by omega) (by omega))<|ac rfl (d8 (by omega) (by omega))<|ar (aG (us:=(cR (((x:Int):Rat))++cR (((y:Int):Rat)))) HR Fu rfl rfl rfl) ?_
 exact ah (aS NF rfl ae)
end Go.Proofs.YtegpmhlfjkhjmaaGreat
