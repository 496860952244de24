/-The order beside a common point:the program. -/
import Derived.Test.YtkmdgigkbhmilaaGreatNbQ
namespace Go.Proofs.YtkmdgigkbhmilaaGreat
open Go Go.RowKit
theorem E9:Ok Tryz.prog 79 [dQ 0 0] [.c (.i .i64 0)]:=by
 refine Ok.fn Tryz.func79 6 [.tmp 2] rfl<|aa<|ab<|ag<|aa<|ab<|al 1<|ah (aF (cI 0) bU rfl)<|ah (am rfl (i5 vx (show dS 0 0=0 from rfl)))<|ag<|an ?_
 exact aq (aE ae)
theorem Qu:Ok Tryz.prog 145 [dQ 0 0,dQ 0 0] [.c (.i .i64 0)]:=by
 refine Ok.fn Tryz.func145 25 [.tmp 4] rfl<|aa<|ab<|ag<|aa<|aa<|aR 6 rfl rfl<|ap 1<|aj (am rfl (E9))<|ap 1<|aj (am rfl (E9))<|aj (am rfl (i5 yv (show dS 0 0=0 from rfl)))<|bk<|az ?_
 refine ar<|aa<|ab<|ag<|aP rfl<|ao<|aa<|aR 12 rfl rfl<|ap 1<|aj (aF (cI 0) bU rfl)<|ap 1<|aj (aF (cI 0) bU rfl)<|aj (am rfl (Il (iz (x:=0) (y:=0) (Sz.small (by decide) (by decide) (by decide)) (Sz.small (by decide) (by decide) (by decide))) (show(0:Int)*0=0 from rfl)))<|ap 1 ?_
 refine aj (aF (cI 0) bU rfl)<|ap 1<|aj (aF (cI 0) bU rfl)<|aj (am rfl (Il (iz (x:=0) (y:=0) (Sz.small (by decide) (by decide) (by decide)) (Sz.small (by decide) (by decide) (by decide))) (show(0:Int)*0=0 from rfl)))<|aj (am rfl (i5 kq (show dS 0 0=0 from rfl)))<|bk<|az<|ar<|an ?_
 exact aq (aE ae)
theorem Rm:Ok Tryz.prog 145 [.a (ua),.a (ua)] [.c (.i .i64 0)]:=by
 have h:Ok Tryz.prog 145 [dQ 0 0,dQ 0 0] [.c (.i .i64 0)]:=Qu
 rw[rO] at h
 exact h
theorem KR {c d:Cv}(hc:c.good) (hd:d.good) (ac:c.isArc=true) (ad:d.isArc=true):Ok Tryz.prog 145 [.a c.qc,.a d.qc] [.c (.i .i64 (aV c.qq d.qq))]:=by
 cases c with
 |seg l f t=>cases ac
 |arc k w f t=>
  cases d with
  |seg l f t=>cases ad
  |arc k2 w2 f2 t2=>exact kJ (hc.1.q.mono (by decide)) (hd.1.q.mono (by decide))
theorem RE {c d:Cv}(hc:c.good) (hd:d.good) (h:c.bnd=d.bnd):Ok Tryz.prog 145 [.a c.qc,.a d.qc] [.c (.i .i64 (aV c.qq d.qq))]:=by
 cases c with
 |seg l f t=>
  cases d with
  |seg l2 f2 t2=>exact i5 Rm (show 0=aV 0 0 from(eG 0).symm)
  |arc k2 w2 f2 t2=>exact absurd (show(Cv.arc k2 w2 f2 t2).bnd=0 from h.symm) (by rcases p8 (k:=k2) (w:=w2) (p:=f2) (q:=t2) with e|e<;>rw[e]<;>decide)
 |arc k w f t=>
  cases d with
  |seg l2 f2 t2=>exact absurd (show(Cv.arc k w f t).bnd=0 from h) (by rcases p8 (k:=k) (w:=w) (p:=f) (q:=t) with e|e<;>rw[e]<;>decide)
  |arc k2 w2 f2 t2=>exact KR hc hd rfl rfl
theorem Ds {c d:Cv}(hc:c.good) (hd:d.good) (ac:c.isArc=true) (ad:d.isArc=true):Ok Tryz.prog 67 [.a c.qc,.a d.qc] [.c (.i .i64 (aV c.qq d.qq))]:=by
 cases c with
 |seg l f t=>cases ac
 |arc k w f t=>
  cases d with
  |seg l f t=>cases ad
  |arc k2 w2 f2 t2=>exact gl (hc.1.q.mono (by decide)) (hd.1.q.mono (by decide))
theorem VS {c:Cv}:Ok Tryz.prog 236 [.a (aB c)] [.c (.i .i64 c.bnd)]:=by
 refine Ok.fn Tryz.func236 10 [.tmp 2] rfl<|aa<|ab<|ag<|aa<|aJ<|aa<|ab<|al 1<|ah (bE xf rfl rfl (mA _) rfl) ?_
 refine ag ?_
 refine aw rfl (fun hc1=>?_) (fun hc1=>?_)
 ·refine aa<|ab<|ag<|an ?_
  rw[PH hc1]
  exact aq (aE ae)
 ·refine aa<|ab<|al 1<|ah (bE xf rfl rfl (qA _) rfl) ?_
  refine ag ?_
  refine aw rfl (fun hc2=>?_) (fun hc2=>?_)
  ·refine aa<|ab<|ag<|an ?_
   rw[JU hc1 hc2]
   exact aq (aE ae)
  ·refine ao<|aa<|ab<|ag<|an ?_
   rw[I4 hc1 hc2]
   exact aq (aE ae)
theorem VU {c:Cv}:Ok Tryz.prog 170 [.a (aB c)] [.c (.i .i64 c.bnd)]:=by
 refine Ok.fn Tryz.func170 8 [.tmp 2] rfl<|aa<|ab<|ag<|aa<|aa<|ab<|al 1<|ah (bE xf rfl rfl (mA _) rfl) ?_
 refine ag ?_
 refine aw rfl (fun hc1=>?_) (fun hc1=>?_)
 ·refine aa<|ab<|ag<|an ?_
  rw[PH hc1]
  exact aq (aE ae)
 ·refine ao<|aa<|aa<|ab<|al 1<|ah (bE xf rfl rfl (qA _) rfl) ?_
  refine ar ?_
  refine aw rfl (fun hc2=>?_) (fun hc2=>?_)
  ·refine aa<|ab<|ag<|an ?_
   rw[JU hc1 hc2]
   exact aq (aE ae)
  ·refine ao<|aa<|ab<|ag<|an ?_
   rw[I4 hc1 hc2]
   exact aq (aE ae)
theorem TO {c d:Cv}(hc:c.good) (hd:d.good):Ok Tryz.prog 162 [.a (aB c),.a (aB d)] [.c (.i .i64 (i6 c d))]:=by
 have b1:=th c
 have b2:=th d
 have hp:=ei (s:= -c.bnd) (t:=aV c.qq d.qq) (by omega) (dm _ _)
 refine Ok.fn Tryz.func162 29 [.tmp 4] rfl<|aa<|ab<|ag<|aa<|aR 6 rfl rfl<|aj (aA (us:=aB c) bd rfl rfl (bv _) (ak _) rfl) ?_
 refine aj (am rfl (VS))<|aj (aA (us:=aB d) bd rfl rfl (bv _) (ak _) rfl) ?_
 refine aj (am rfl (VS))<|bk<|az<|ar<|aa<|aJ<|aa<|ab<|ag ?_
 refine aw rfl (fun hc1=>?_) (fun hc1=>?_)
 ·refine aa<|ab<|ag<|an ?_
  rw[F5 hc1]
  exact aq (aE ae)
 ·refine aa<|ab<|ag ?_
  refine aw rfl (fun hc2=>?_) (fun hc2=>?_)
  ·refine aa<|ab<|ag<|an ?_
   rw[FF hc1 hc2]
   exact aq (aE ae)
  ·have q0:c.bnd=d.bnd:=by have q1:=of_decide_eq_false hc1;have q2:=of_decide_eq_false hc2;omega
   refine ao<|aa<|ab<|al 1<|ah (dD (r:= -c.bnd) rfl (mN b1) rfl) ?_
   refine al 2<|ah (aA (us:=c.qc) aD rfl rfl (kn _) (nn _) rfl) ?_
   refine al 2<|ah (aA (us:=d.qc) aD rfl rfl (kn _) (nn _) rfl) ?_
   refine ah (am rfl (RE hc hd q0))<|ah (aK (r:=(-c.bnd)*(aV c.qq d.qq)) rfl rfl (dg (by omega) (by omega)) rfl) ?_
   refine ag<|an ?_
   rw[um hc1 hc2]
   exact aq (aE ae)
theorem PD {c d:Cv}(hc:c.good) (hd:d.good):Ok Tryz.prog 91 [.a (aB c),.a (aB d)] [.c (.i .i64 (i6 c d))]:=by
 have b1:=th c
 have b2:=th d
 have hp:=ei (s:= -c.bnd) (t:=aV c.qq d.qq) (by omega) (dm _ _)
 refine Ok.fn Tryz.func91 29 [.tmp 4] rfl<|aa<|ab<|ag<|aa<|aR 6 rfl rfl<|aj (aA (us:=aB c) bd rfl rfl (bv _) (ak _) rfl) ?_
 refine aj (am rfl (VU))<|aj (aA (us:=aB d) bd rfl rfl (bv _) (ak _) rfl) ?_
 refine aj (am rfl (VU))<|bk<|az<|ar<|aa<|aa<|ab<|ag ?_
 refine aw rfl (fun hc1=>?_) (fun hc1=>?_)
 ·refine aa<|aa<|ab<|ag ?_
  refine aw rfl (fun hc2=>?_) (fun hc2=>?_)
  ·refine aa<|ab<|ag<|an ?_
   rw[F5 hc2]
   exact aq (aE ae)
  ·refine ao<|aa<|ab<|ag<|an ?_
   rw[FF hc2 (decide_eq_true (by have q1:=of_decide_eq_false hc2;have q2: ¬c.bnd=d.bnd:=(by simpa using hc1);omega))]
   exact aq (aE ae)
 ·have q0:c.bnd=d.bnd:=by simpa using hc1
  refine ao<|aa<|aa<|ab<|ag ?_
  refine aw rfl (fun hc3=>?_) (fun hc3=>?_)
  ·refine aa<|ab<|ag<|an ?_
   rw[RP q0 (by simpa using hc3)]
   exact aq (aE ae)
  ·have q1:c.bnd≠0:=by simpa using hc3
   refine ao<|aa<|ab<|al 1<|ah (dD (r:= -c.bnd) rfl (mN b1) rfl) ?_
   refine al 2<|ah (aA (us:=c.qc) aD rfl rfl (kn _) (nn _) rfl) ?_
   refine al 2<|ah (aA (us:=d.qc) aD rfl rfl (kn _) (nn _) rfl) ?_
   refine ah (am rfl (Ds hc hd (LM q1) (LM (q0▸q1))))<|ah (aK (r:=(-c.bnd)*(aV c.qq d.qq)) rfl rfl (dg (by omega) (by omega)) rfl) ?_
   refine ag<|an ?_
   rw[um (decide_eq_false (by omega)) (decide_eq_false (by omega))]
   exact aq (aE ae)
theorem VW {side:Int}(hs:side=1∨side= -1) {s:Slp}(gs:SlG s):Ok Tryz.prog 161 [.a (kF s),.c (.p ([.i .i64 side]))] [.c (.i .i64 (rk s side))]:=by
 refine Ok.fn Tryz.func161 11 [.tmp 3] rfl<|aa<|ab<|ag<|aa<|aa<|ab<|al 1<|ah (bE qB rfl rfl (fi _) rfl) ?_
 refine ag ?_
 refine aw rfl (fun hc1=>?_) (fun hc1=>?_)
 ·refine aa<|ab<|ah (vO qB rfl rfl rfl) ?_
  refine ah (aK (r:=2*side) rfl rfl (dg (by omega) (by omega)) rfl) ?_
  refine ag<|an ?_
  rw[LA gs hc1]
  exact aq (aE ae)
 ·refine ao<|aa<|ab<|al 1<|ah (bE qB rfl rfl (fi _) rfl) ?_
  refine ag<|an ?_
  rw[It gs hc1]
  exact aq (aE ae)
theorem Ih {u v z u2 v2 z2:Rat}(hz:VSz u v z) (hz2:VSz u2 v2 z2):Ok Tryz.prog 72 [.a ((cR u++cR v++cR z)),.a ((cR u2++cR v2++cR z2))] [.c (.i .i64 (iX (u-u2) v (-v2) 0 z z2))]:=by
 refine Ok.fn Tryz.func72 9 [.tmp 4] rfl<|aa<|ab<|ag<|aa<|ab<|al 2<|ah (am rfl (BD (hz.za.m_) (hz.zb.m_) (hz2.za.m_) (hz2.zb.m_)))<|ah (am rfl (yc ((hz.za.sub hz2.za).m_) (hz.zb.m_) (hz2.zb.neg.m_) (Rz.zero (by decide)) (hz.zc.m_) (hz2.zc.m_)))<|ag<|an ?_
 exact aq (aE ae)
theorem Sh {s t:Slp}(gs:SlG s) (gt:SlG t) (h:s.n=0∧t.n=0):Ok Tryz.prog 76 [.a s.cl,.a t.cl] [.c (.i .i64 (s.vcmp t))]:=by
 obtain⟨u,v,z,rfl⟩:=tU gs h.1
 obtain⟨u2,v2,z2,rfl⟩:=tU gt h.2
 have hz:=gs.sz _ _ _ rfl
 have hz2:=gt.sz _ _ _ rfl
 exact km (hz.za.mono (by decide)) (hz.zb.mono (by decide)) (hz.zc.mono (by decide)) (hz2.za.mono (by decide)) (hz2.zb.mono (by decide)) (hz2.zc.mono (by decide)) ((hz.za.sub hz2.za).mono (by decide)) hz.c0 hz2.c0
theorem OP {s t:Slp}(gs:SlG s) (gt:SlG t) (h:s.n=0∧t.n=0):Ok Tryz.prog 72 [.a s.cl,.a t.cl] [.c (.i .i64 (s.vcmp t))]:=by
 obtain⟨u,v,z,rfl⟩:=tU gs h.1
 obtain⟨u2,v2,z2,rfl⟩:=tU gt h.2
 have hz:=gs.sz _ _ _ rfl
 have hz2:=gt.sz _ _ _ rfl
 exact Ih hz hz2
theorem Tp {c d:Cv}(hc:c.good) (hd:d.good) {s t:Slp}(gs:SlG s) (gt:SlG t) (as_: ∀n,s=.st n→c.isArc=true) (at_: ∀n,t=.st n→d.isArc=true) {side:Int}(hs:side=1∨side= -1):Ok Tryz.prog 87 [.a (aB c),.a (aB d),.a (kF s),.a (kF t),.c (.i .i64 side)] [.c (.i .i64 (o6 c d s t side))]:=by
 have qb:=uI s t
 have hp:=ei (s:=side) (t:=s.vcmp t) (by omega) qb
 refine Ok.fn Tryz.func87 61 [.tmp 10] rfl<|aa<|ab<|ag<|aa<|jD (t:=9) (k:=9) rfl rfl<|ab<|ah (kU (us:=[.p ([.i .i64 side])]) rfl rfl) ?_
 refine ag<|aa<|aR 8 rfl rfl<|ap 1<|aj (aA (us:=kF s) wd rfl rfl (xG _) (jf _) rfl) ?_
 refine aj (gK rfl rfl (VW hs gs) rfl) ?_
 refine ap 1<|aj (aA (us:=kF t) wd rfl rfl (xG _) (jf _) rfl) ?_
 refine aj (gK rfl rfl (VW hs gt) rfl) ?_
 refine bk<|az<|ar<|aa<|aJ<|aa<|ab<|ag ?_
 refine aw rfl (fun hc1=>?_) (fun hc1=>?_)
 ·refine aa<|ab<|ag<|an ?_
  rw[vg hc1]
  exact aq (aE ae)
 ·refine aa<|ab<|ag ?_
  refine aw rfl (fun hc2=>?_) (fun hc2=>?_)
  ·refine aa<|ab<|ag<|an ?_
   rw[uY hc1 hc2]
   exact aq (aE ae)
  ·refine aa<|ab<|al 1<|ah (bE qB rfl rfl (fi _) rfl) ?_
   refine ag ?_
   refine aw rfl (fun hc3=>?_) (fun hc3=>?_)
   ·refine aa<|ab<|ag<|an ?_
    rw[Ap gs gt hs hc1 hc2 hc3]
    exact aq (aE ae)
   ·refine aa<|ab<|al 1<|ah (bE qB rfl rfl (fi _) rfl) ?_
    refine ag ?_
    refine aw rfl (fun hc4=>?_) (fun hc4=>?_)
    ·have y1:=zU (c:=c) (d:=d) gs gt hs hc1 hc2 hc3 hc4
     have qn:s.n=1∨s.n= -1:=y1.2.1.elim fun n e=>by have:=gs.st n e;subst e;exact this
     have hp2:=ei (s:=s.n) (t:=aV c.qq d.qq) (by omega) (dm _ _)
     refine aa<|aR 11 rfl rfl<|ap 1<|aj (bE qB rfl rfl (fi _) rfl) ?_
     refine ap 2<|aj (aA (us:=c.qc) aD rfl rfl (kn _) (nn _) rfl) ?_
     refine ap 2<|aj (aA (us:=d.qc) aD rfl rfl (kn _) (nn _) rfl) ?_
     refine aj (am rfl (KR hc hd (y1.2.1.elim as_) (y1.2.2.elim at_)))<|aj (aK (r:=s.n*(aV c.qq d.qq)) rfl rfl (dg (by omega) (by omega)) rfl) ?_
     refine bk<|az<|ar<|an ?_
     rw[y1.1]
     exact aq (aE ae)
    ·have y1:=yV (c:=c) (d:=d) gs gt hs hc1 hc2 hc3 hc4
     refine ao<|aa<|aa<|ab<|al 1<|ah (aA (us:=s.cl) dx rfl rfl (tr _) (sK _) rfl) ?_
     refine al 1<|ah (aA (us:=t.cl) dx rfl rfl (tr _) (sK _) rfl) ?_
     refine ah (am rfl (Sh gs gt y1.1))<|ag<|aa<|ab<|ag ?_
     refine aw rfl (fun hc5=>?_) (fun hc5=>?_)
     ·refine aa<|ab<|ah (vO qB rfl rfl rfl) ?_
      refine al 1<|ah (aK (r:=side*(s.vcmp t)) rfl rfl (dg (by omega) (by omega)) rfl) ?_
      refine ag<|an ?_
      rw[y1.2,if_neg (by simpa using hc5)]
      exact aq (aE ae)
     ·refine ao<|aa<|ab<|ah (aA (us:=aB c) bd rfl rfl (bv _) (ak _) rfl) ?_
      refine ah (aA (us:=aB d) bd rfl rfl (bv _) (ak _) rfl) ?_
      refine ah (am rfl (TO hc hd))<|ag<|an ?_
      rw[y1.2,if_pos (by simpa using hc5)]
      exact aq (aE ae)
theorem V5 {c d:Cv}(vc:CvV c) (vd:CvV d) {s t:Slp}(es:c.slp c.p=s) (et:d.slp d.p=t):Ok Tryz.prog 24 [.a (aB c),.a (aB d)] [.c (.i .i64 (jl c d)),.c (.i .i64 (sT c d))]:=by
 have hc:=vc.g
 have hd:=vd.g
 have gs:SlG s:=es▸kE hc (cn hc)
 have gt:SlG t:=et▸kE hd (cn hd)
 have as_: ∀n,s=.st n→c.isArc=true:=es▸ni
 have at_: ∀n,t=.st n→d.isArc=true:=et▸ni
 refine Ok.fn Tryz.func24 23 [.tmp 4,.tmp 5] rfl<|aa<|ab<|ag<|aa<|aa<|ab<|al 1<|ah (aA (us:=au c.p) bo rfl rfl (dW _) rfl rfl) ?_
 refine al 1<|ah (aA (us:=au d.p) bo rfl rfl (dW _) rfl rfl) ?_
 refine ah (am rfl (ro (cn hc) (cn hd)))<|ag ?_
 refine aw rfl (fun hc1=>?_) (fun hc1=>?_)
 ·refine aa<|ab<|ag<|an ?_
  have y1:=Pf (c:=c) (d:=d) (by simpa using hc1)
  rw[y1.1,y1.2]
  exact aq (aE (aE ae))
 ·refine ao<|aa<|aR 13 rfl rfl<|aj (aA (us:=aB c) bd rfl rfl (bv _) (ak _) rfl) ?_
  refine aj (aA (us:=aB d) bd rfl rfl (bv _) (ak _) rfl) ?_
  refine aj (aA (us:=aB c) bd rfl rfl (bv _) (ak _) rfl) ?_
  refine ap 1<|aj (aA (us:=au c.p) bo rfl rfl (dW _) rfl rfl) ?_
  refine aj (am rfl ((show Ok _ _ _ [.a (kF s)] from es▸UL vc (cn hc))))<|aj (aA (us:=aB d) bd rfl rfl (bv _) (ak _) rfl) ?_
  refine ap 1<|aj (aA (us:=au d.p) bo rfl rfl (dW _) rfl rfl) ?_
  refine aj (am rfl ((show Ok _ _ _ [.a (kF t)] from et▸UL vd (cn hd))))<|aj (am rfl (Tp hc hd gs gt as_ at_ (.inl rfl)))<|bk<|az<|ar<|an ?_
  have y1:=tO (c:=c) (d:=d) (by simpa using hc1) es et
  rw[y1.1,y1.2]
  exact aq (aE (aE ae))
theorem V8 {c d:Cv}(vc:CvV c) (vd:CvV d) {s t:Slp}(es:c.slp c.p=s) (et:d.slp d.p=t):Ok Tryz.prog 25 [.a (aB c),.a (aB d)] [.c (.i .i64 (jl c d)),.c (.i .i64 (sT c d))]:=by
 have hc:=vc.g
 have hd:=vd.g
 have gs:SlG s:=es▸kE hc (cn hc)
 have gt:SlG t:=et▸kE hd (cn hd)
 have as_: ∀n,s=.st n→c.isArc=true:=es▸ni
 have at_: ∀n,t=.st n→d.isArc=true:=et▸ni
 refine Ok.fn Tryz.func25 60 [.tmp 4,.tmp 5] rfl<|aa<|ab<|ag<|aa<|aa<|ab<|al 1<|ah (aA (us:=au c.p) bo rfl rfl (dW _) rfl rfl) ?_
 refine al 1<|ah (aA (us:=au d.p) bo rfl rfl (dW _) rfl rfl) ?_
 refine ah (am rfl (vD (cn hc) (cn hd)))<|ag ?_
 refine aw rfl (fun hc1=>?_) (fun hc1=>?_)
 ·refine aa<|ab<|ag<|an ?_
  have y1:=Pf (c:=c) (d:=d) (by simpa using hc1)
  rw[y1.1,y1.2]
  exact aq (aE (aE ae))
 ·have r1:rk s (1)=s.n:=S6 gs
  have r2:rk t (1)=t.n:=S6 gt
  refine ao<|aa<|aR 10 rfl rfl<|aj (aA (us:=aB c) bd rfl rfl (bv _) (ak _) rfl) ?_
  refine ap 1<|aj (aA (us:=au c.p) bo rfl rfl (dW _) rfl rfl) ?_
  refine aj (am rfl ((show Ok _ _ _ [.a (kF s)] from es▸UN vc (cn hc))))<|aj (aA (us:=aB d) bd rfl rfl (bv _) (ak _) rfl) ?_
  refine ap 1<|aj (aA (us:=au d.p) bo rfl rfl (dW _) rfl rfl) ?_
  refine aj (am rfl ((show Ok _ _ _ [.a (kF t)] from et▸UN vd (cn hd))))<|ba (ai nN rfl) rfl<|ba (ai nN rfl) rfl<|aY<|bG<|bL (aZ rD rfl rfl rfl (jf _) rfl rfl) ?_
  refine bL (aZ rD rfl rfl rfl (jf _) rfl rfl) ?_
  refine ar<|aa<|aa<|ab<|al 1<|ah (bE qB rfl rfl (fi _) rfl) ?_
  refine al 1<|ah (bE qB rfl rfl (fi _) rfl) ?_
  refine ag ?_
  refine aw rfl (fun hc2=>?_) (fun hc2=>?_)
  ·refine aa<|aa<|ab<|al 1<|ah (bE qB rfl rfl (fi _) rfl) ?_
   refine al 1<|ah (bE qB rfl rfl (fi _) rfl) ?_
   refine ag ?_
   refine aw rfl (fun hc3=>?_) (fun hc3=>?_)
   ·refine aa<|ab<|ag<|an ?_
    have y1:=tO (c:=c) (d:=d) (by simpa using hc1) es et
    have z1:o6 c d s t (1)= -1:=vg (by rw[r1,r2];exact hc3)
    rw[y1.1,y1.2,z1]
    exact aq (aE (aE ae))
   ·refine ao<|aa<|ab<|ag<|an ?_
    have y1:=tO (c:=c) (d:=d) (by simpa using hc1) es et
    have z1:o6 c d s t (1)=1:=uY (by rw[r1,r2];exact hc3) (by rw[r1,r2];exact decide_eq_true (by have q1:=of_decide_eq_false hc3;have q2: ¬(s.n:Int)=t.n:=(by simpa using hc2);omega))
    rw[y1.1,y1.2,z1]
    exact aq (aE (aE ae))
  ·have q1:s.n=t.n:=by simpa using hc2
   have q2:decide (rk s (1)<rk t (1))=false:=by rw[r1,r2];exact decide_eq_false (by omega)
   have q3:decide (rk s (1)>rk t (1))=false:=by rw[r1,r2];exact decide_eq_false (by omega)
   refine ao<|aa<|aa<|ab<|al 1<|ah (bE qB rfl rfl (fi _) rfl) ?_
   refine ag ?_
   refine aw rfl (fun hc4=>?_) (fun hc4=>?_)
   ·refine aa<|ab<|ag<|an ?_
    have y1:=tO (c:=c) (d:=d) (by simpa using hc1) es et
    have z1:o6 c d s t (1)=0:=Ap gs gt (.inl rfl) q2 q3 hc4
    rw[y1.1,y1.2,z1]
    exact aq (aE (aE ae))
   ·refine ao<|aa<|aa<|ab<|al 1<|ah (bE qB rfl rfl (fi _) rfl) ?_
    refine ag ?_
    refine aw rfl (fun hc5=>?_) (fun hc5=>?_)
    ·have y2:=zU (c:=c) (d:=d) gs gt (.inl rfl) q2 q3 hc4 hc5
     have qn:s.n=1∨s.n= -1:=y2.2.1.elim fun n e=>by have:=gs.st n e;subst e;exact this
     have hp2:=ei (s:=s.n) (t:=aV c.qq d.qq) (by omega) (dm _ _)
     refine aa<|aR 12 rfl rfl<|ap 1<|aj (bE qB rfl rfl (fi _) rfl) ?_
     refine ap 2<|aj (aA (us:=c.qc) aD rfl rfl (kn _) (nn _) rfl) ?_
     refine ap 2<|aj (aA (us:=d.qc) aD rfl rfl (kn _) (nn _) rfl) ?_
     refine aj (am rfl (Ds hc hd (y2.2.1.elim as_) (y2.2.2.elim at_)))<|aj (aK (r:=s.n*(aV c.qq d.qq)) rfl rfl (dg (by omega) (by omega)) rfl) ?_
     refine bk<|az<|ar<|an ?_
     have y1:=tO (c:=c) (d:=d) (by simpa using hc1) es et
     have z1:=y2.1
     rw[y1.1,y1.2,z1]
     exact aq (aE (aE ae))
    ·have y2:=yV (c:=c) (d:=d) gs gt (.inl rfl) q2 q3 hc4 hc5
     have qb:=uI s t
     refine ao<|aa<|aa<|ab<|al 1<|ah (aA (us:=s.cl) dx rfl rfl (tr _) (sK _) rfl) ?_
     refine al 1<|ah (aA (us:=t.cl) dx rfl rfl (tr _) (sK _) rfl) ?_
     refine ah (am rfl (OP gs gt y2.1))<|ag<|aa<|ab<|ag ?_
     refine aw rfl (fun hc6=>?_) (fun hc6=>?_)
     ·refine aa<|ab<|ag<|an ?_
      have y1:=tO (c:=c) (d:=d) (by simpa using hc1) es et
      have z0: ¬s.vcmp t=0:=by simpa using hc6
      have z1:=y2.2
      rw[if_neg z0,show(1)*s.vcmp t=s.vcmp t from by omega] at z1
      rw[y1.1,y1.2,z1]
      exact aq (aE (aE ae))
     ·refine ao<|aa<|ab<|ah (aA (us:=aB c) bd rfl rfl (bv _) (ak _) rfl) ?_
      refine ah (aA (us:=aB d) bd rfl rfl (bv _) (ak _) rfl) ?_
      refine ah (am rfl (PD hc hd))<|ag<|an ?_
      have y1:=tO (c:=c) (d:=d) (by simpa using hc1) es et
      have z0:s.vcmp t=0:=by simpa using hc6
      have z1:=y2.2
      rw[if_pos z0] at z1
      rw[y1.1,y1.2,z1]
      exact aq (aE (aE ae))
theorem Jv {c d:Cv}(vc:CvV c) (vd:CvV d):Ok Tryz.prog 24 [.a (aB c),.a (aB d)] [.c (.i .i64 (jl c d)),.c (.i .i64 (sT c d))]:=V5 vc vd rfl rfl
theorem Uz {c d:Cv}(vc:CvV c) (vd:CvV d):Ok Tryz.prog 25 [.a (aB c),.a (aB d)] [.c (.i .i64 (jl c d)),.c (.i .i64 (sT c d))]:=V8 vc vd rfl rfl
theorem Bv {c d:Cv}(vc:CvV c) (vd:CvV d):Ok Tryz.prog 26 [.a (aB c),.a (aB d)] [.c (.i .i64 (dK c d))]:=by
 have hc:=vc.g
 have hd:=vd.g
 refine Ok.fn Tryz.func26 34 [.tmp 4] rfl<|aa<|ab<|ag<|aa<|aa<|ab<|al 1<|ah (aA (us:=au c.p) bo rfl rfl (dW _) rfl rfl) ?_
 refine al 1<|ah (aA (us:=au d.p) bo rfl rfl (dW _) rfl rfl) ?_
 refine ah (am rfl (yS (cn hc) (cn hd)))<|ag<|aa<|ab<|ag ?_
 refine aw rfl (fun hc1=>?_) (fun hc1=>?_)
 ·refine aa<|ab<|ag<|an ?_
  rw[HS hc1]
  exact aq (aE ae)
 ·refine ao<|aa<|aa<|ab<|ah (aA (us:=aB c) bd rfl rfl (bv _) (ak _) rfl) ?_
  refine ah (aA (us:=aB d) bd rfl rfl (bv _) (ak _) rfl) ?_
  refine ah (am rfl (Jv vc vd))<|ag<|aa<|ab<|al 2 ?_
  refine cg (bN rfl) (fun c2 hb2=>?_)
  cases c2
  ·exact absurd hb2 (by rw[(tO (c:=c) (d:=d) (by simpa using hc1) rfl rfl).2];decide)
  ·refine ag ?_
   refine aw rfl (fun hc3=>?_) (fun hc3=>?_)
   ·refine aa<|ab<|ag<|an ?_
    rw[FB hc1 hc3]
    exact aq (aE ae)
   ·refine ao<|aa<|ab<|al 1<|ah (aA (us:=au c.q) bo rfl rfl (dY _) rfl rfl) ?_
    refine al 1<|ah (aA (us:=au d.q) bo rfl rfl (dY _) rfl rfl) ?_
    refine ah (am rfl (yS (cH hc) (cH hd)))<|ag<|an ?_
    rw[Fc hc1 hc3]
    exact aq (aE ae)
theorem LY {c d:Cv}(vc:CvV c) (vd:CvV d):Ok Tryz.prog 27 [.a (aB c),.a (aB d)] [.c (.i .i64 (dK c d))]:=by
 have hc:=vc.g
 have hd:=vd.g
 refine Ok.fn Tryz.func27 30 [.tmp 4] rfl<|aa<|ab<|ag<|aa<|aa<|ab<|al 1<|ah (aA (us:=au c.p) bo rfl rfl (dW _) rfl rfl) ?_
 refine al 1<|ah (aA (us:=au d.p) bo rfl rfl (dW _) rfl rfl) ?_
 refine ah (am rfl (kW (cn hc) (cn hd)))<|ag<|aa<|ab<|ag ?_
 refine aw rfl (fun hc1=>?_) (fun hc1=>?_)
 ·refine aa<|ab<|ag<|an ?_
  rw[HS hc1]
  exact aq (aE ae)
 ·refine ao<|aa<|aa<|ab<|ah (aA (us:=aB c) bd rfl rfl (bv _) (ak _) rfl) ?_
  refine ah (aA (us:=aB d) bd rfl rfl (bv _) (ak _) rfl) ?_
  refine ah (am rfl (Uz vc vd))<|ag<|aa<|ab<|ag ?_
  refine aw rfl (fun hc2=>?_) (fun hc2=>?_)
  ·refine aa<|ab<|ag<|an ?_
   rw[FB hc1 hc2]
   exact aq (aE ae)
  ·refine ao<|aa<|ab<|al 1<|ah (aA (us:=au c.q) bo rfl rfl (dY _) rfl rfl) ?_
   refine al 1<|ah (aA (us:=au d.q) bo rfl rfl (dY _) rfl rfl) ?_
   refine ah (am rfl (kW (cH hc) (cH hd)))<|ag<|an ?_
   rw[Fc hc1 hc2]
   exact aq (aE ae)
theorem Dh {K U A B C D E F K' U' A' B' C' D' E' F' N:Int}(_hN:0≤N∧N≤255) {A0 Bl:List Cv}(hO1:Ok Tryz.prog 98 [.a (([.i .u8 K]++[.i .u8 U]++[.i .i8 A]++[.i .i8 B]++[.i .i8 C]++[.i .i8 D]++[.i .i8 E]++[.i .i8 F]))] [.c (.s ((A0).length) (aI aB (A0)))]) (hO2:Ok Tryz.prog 98 [.a (([.i .u8 K']++[.i .u8 U']++[.i .i8 A']++[.i .i8 B']++[.i .i8 C']++[.i .i8 D']++[.i .i8 E']++[.i .i8 F']))] [.c (.s ((Bl).length) (aI aB (Bl)))]) (h0:A0=[]):Ok Tryz.prog 36 [.a ((([.i .u8 K]++[.i .u8 U]++[.i .i8 A]++[.i .i8 B]++[.i .i8 C]++[.i .i8 D]++[.i .i8 E]++[.i .i8 F])++([.i .u8 K']++[.i .u8 U']++[.i .i8 A']++[.i .i8 B']++[.i .i8 C']++[.i .i8 D']++[.i .i8 E']++[.i .i8 F'])++[.i .u8 N]))] [.a (([.b false]++cS++cS++[.b false]++ob++ob)),.c (.b false)]:=by
 refine Ok.fn Tryz.func36 59 [.cell 2 48,.tmp 3] rfl<|aa<|ab<|al 1<|aC (ai eo rfl) rfl<|ag<|aa<|aR 8 rfl rfl<|ap 1<|aj (aF (([.i .u8 K]++[.i .u8 U]++[.i .i8 A]++[.i .i8 B]++[.i .i8 C]++[.i .i8 D]++[.i .i8 E]++[.i .i8 F])) Nn rfl)<|aj (am rfl (hO1))<|ap 1<|aj (aF (([.i .u8 K']++[.i .u8 U']++[.i .i8 A']++[.i .i8 B']++[.i .i8 C']++[.i .i8 D']++[.i .i8 E']++[.i .i8 F'])) Nn rfl)<|aj (am rfl (hO2)) ?_
 refine bk<|az<|ar<|aa<|aa<|ab<|al 2<|ah (bQ (c:=true) (iP rfl) (by rw[h0];rfl)) ?_
 refine ar<|bg rfl<|aa<|ab<|ah (aN (us:=([.b false]++cS++cS++[.b false]++ob++ob)) Eo eo rfl rfl rfl) ?_
 refine ag<|an ?_
 exact aq (fr (us:=([.b false]++cS++cS++[.b false]++ob++ob)) bd rfl rfl (by kernel_rfl) (by kernel_rfl) (aE ae))
theorem Ir {K U A B C D E F K' U' A' B' C' D' E' F' N:Int}(hN:0≤N∧N≤255) {A0 Bl:List Cv}(hO1:Ok Tryz.prog 98 [.a (([.i .u8 K]++[.i .u8 U]++[.i .i8 A]++[.i .i8 B]++[.i .i8 C]++[.i .i8 D]++[.i .i8 E]++[.i .i8 F]))] [.c (.s ((A0).length) (aI aB (A0)))]) (hO2:Ok Tryz.prog 98 [.a (([.i .u8 K']++[.i .u8 U']++[.i .i8 A']++[.i .i8 B']++[.i .i8 C']++[.i .i8 D']++[.i .i8 E']++[.i .i8 F']))] [.c (.s ((Bl).length) (aI aB (Bl)))]) (hg:CvG (A0.getD 0 bn)) (h0:0<A0.length) (hB: ∀d∈Bl,d.good) (lB:Bl.length≤2):Ok Tryz.prog 36 [.a ((([.i .u8 K]++[.i .u8 U]++[.i .i8 A]++[.i .i8 B]++[.i .i8 C]++[.i .i8 D]++[.i .i8 E]++[.i .i8 F])++([.i .u8 K']++[.i .u8 U']++[.i .i8 A']++[.i .i8 B']++[.i .i8 C']++[.i .i8 D']++[.i .i8 E']++[.i .i8 F'])++[.i .u8 N]))] [.a (aB (((t6 A0 Bl).getD (N.toNat%(t6 A0 Bl).length) bn))),.c (.b true)]:=by
 have hA0:=h0
 have hpos:=BP (A0:=A0) (Bl:=Bl) hg.ne
 obtain⟨ix,eix⟩: ∃ix,ix=N.toNat%(t6 A0 Bl).length:=⟨_,rfl⟩
 have hix:ix<(t6 A0 Bl).length:=by rw[eix];exact Nat.mod_lt _ hpos
 have hCU: ∀p∈(eH (A0.getD 0 bn) Bl),GP p∧_:=ue hg.g hB
 have e1P:(t6 A0 Bl).length=(eE (A0.getD 0 bn) (eH (A0.getD 0 bn) Bl)).length:=rfl
 refine Ok.fn Tryz.func36 59 [.cell 2 48,.tmp 3] rfl<|aa<|ab<|al 1<|aC (ai eo rfl) rfl<|ag<|aa<|aR 8 rfl rfl<|ap 1<|aj (aF (([.i .u8 K]++[.i .u8 U]++[.i .i8 A]++[.i .i8 B]++[.i .i8 C]++[.i .i8 D]++[.i .i8 E]++[.i .i8 F])) Nn rfl)<|aj (am rfl (hO1))<|ap 1<|aj (aF (([.i .u8 K']++[.i .u8 U']++[.i .i8 A']++[.i .i8 B']++[.i .i8 C']++[.i .i8 D']++[.i .i8 E']++[.i .i8 F'])) Nn rfl)<|aj (am rfl (hO2)) ?_
 refine bk<|az<|ar<|aa<|aa<|ab<|al 2<|ah (bQ (c:=false) (iP rfl) (by simpa using Nat.ne_of_gt h0)) ?_
 refine ar<|aP rfl<|ao<|aa<|ab<|ah (fF rfl) ?_
 refine ar ?_
 refine gE (ι:=Unit) (fun i=>⟨59,[(1,.p 1 0),(2,.p 2 0),(4,.v (.c (.s ((A0).length) (aI aB (A0))))),(5,.v (.c (.s ((Bl).length) (aI aB (Bl))))),(6,.v (.c (.s (((eH (A0.getD 0 bn) Bl)).length) (aI au ((eH (A0.getD 0 bn) Bl))))))],[(1,26,(([.i .u8 K]++[.i .u8 U]++[.i .i8 A]++[.i .i8 B]++[.i .i8 C]++[.i .i8 D]++[.i .i8 E]++[.i .i8 F])++([.i .u8 K']++[.i .u8 U']++[.i .i8 A']++[.i .i8 B']++[.i .i8 C']++[.i .i8 D']++[.i .i8 E']++[.i .i8 F'])++[.i .u8 N])),(2,48,([.b false]++cS++cS++[.b false]++ob++ob))]⟩) ?_ ?_
 ·refine aa<|ab<|ag<|aJ ?_
  refine bD (ι:=Sum ({n:Nat // n≤Bl.length∧(eH (A0.getD 0 bn) (Bl.take n))=[]}) ({x9:Nat×Nat×List CellD // x9.1≤Bl.length∧(eH (A0.getD 0 bn) (Bl.take x9.1)).length≤x9.2.1∧x9.2.1≤maxLen∧x9.2.2.length=(x9.2.1-(eH (A0.getD 0 bn) (Bl.take x9.1)).length)*20})) (fun i=>match i with| .inl i=>⟨59,[(1,.p 1 0),(2,.p 2 0),(4,.v (.c (.s ((A0).length) (aI aB (A0))))),(5,.v (.c (.s ((Bl).length) (aI aB (Bl))))),(6,.z),(7,.v (.c (.i .i64 (i.1:Int))))],[(1,26,(([.i .u8 K]++[.i .u8 U]++[.i .i8 A]++[.i .i8 B]++[.i .i8 C]++[.i .i8 D]++[.i .i8 E]++[.i .i8 F])++([.i .u8 K']++[.i .u8 U']++[.i .i8 A']++[.i .i8 B']++[.i .i8 C']++[.i .i8 D']++[.i .i8 E']++[.i .i8 F'])++[.i .u8 N])),(2,48,([.b false]++cS++cS++[.b false]++ob++ob))]⟩| .inr i=>⟨59,[(1,.p 1 0),(2,.p 2 0),(4,.v (.c (.s ((A0).length) (aI aB (A0))))),(5,.v (.c (.s ((Bl).length) (aI aB (Bl))))),(6,.o 41 ((eH (A0.getD 0 bn) (Bl.take i.1.1)).length) i.1.2.1),(7,.v (.c (.i .i64 (i.1.1:Int))))],[(1,26,(([.i .u8 K]++[.i .u8 U]++[.i .i8 A]++[.i .i8 B]++[.i .i8 C]++[.i .i8 D]++[.i .i8 E]++[.i .i8 F])++([.i .u8 K']++[.i .u8 U']++[.i .i8 A']++[.i .i8 B']++[.i .i8 C']++[.i .i8 D']++[.i .i8 E']++[.i .i8 F'])++[.i .u8 N])),(2,48,([.b false]++cS++cS++[.b false]++ob++ob)),(41,46,aI au (eH (A0.getD 0 bn) (Bl.take i.1.1))++i.1.2.2)]⟩) (fun i=>match i with| .inl i=>Bl.length-i.1| .inr i=>Bl.length-i.1.1) (.inl ⟨0,Nat.zero_le _,rfl⟩) (aM ⟨rfl,rfl,rfl,rfl,rfl,rfl,trivial⟩ ⟨rfl,rfl,trivial⟩ rfl) ?_
  rintro(⟨n,h2,h3⟩|⟨⟨n,c,rs⟩,h2,h3,h4,h5⟩)
  ·replace h2:n≤Bl.length:=h2
   replace h3:(eH (A0.getD 0 bn) (Bl.take n))=[]:=h3
   show Dw _ _ ⟨59,[(1,.p 1 0),(2,.p 2 0),(4,.v (.c (.s ((A0).length) (aI aB (A0))))),(5,.v (.c (.s ((Bl).length) (aI aB (Bl))))),(6,.z),(7,.v (.c (.i .i64 (n:Int))))],[(1,26,(([.i .u8 K]++[.i .u8 U]++[.i .i8 A]++[.i .i8 B]++[.i .i8 C]++[.i .i8 D]++[.i .i8 E]++[.i .i8 F])++([.i .u8 K']++[.i .u8 U']++[.i .i8 A']++[.i .i8 B']++[.i .i8 C']++[.i .i8 D']++[.i .i8 E']++[.i .i8 F'])++[.i .u8 N])),(2,48,([.b false]++cS++cS++[.b false]++ob++ob))]⟩ _
   refine aa<|aa<|ab<|ag ?_
   refine aw rfl (fun hc1=>?_) (fun hc1=>?_)
   ·have g1:n<Bl.length:=by have:=of_decide_eq_true hc1;omega
    refine ao<|aa<|aJ<|aa<|aR 13 rfl rfl<|ap 1<|aj (aW (us:=aB (A0.getD 0 bn)++aI aB (A0.drop (0+1))) eu rfl rfl (by omega) (aG ak _) (bz ak (bi hA0)) rfl) ?_
    refine aj (bb (us:=aB (A0.getD 0 bn)) bd rfl (df _ _) (ak _) rfl) ?_
    refine ap 2<|aj (aW (us:=aB (Bl.getD n bn)++aI aB (Bl.drop (n+1))) eu rfl rfl (by omega) (aG ak _) (bz ak (bi g1)) rfl) ?_
    refine aj (bb (us:=aB (Bl.getD n bn)) bd rfl (df _ _) (ak _) rfl) ?_
    refine aj (am rfl (uj hg.g (hB _ (b8 g1))))<|bk<|az<|ar ?_
    rcases Nat.eq_zero_or_pos (cT (A0.getD 0 bn) (Bl.getD n bn)).length with hq0|hq0
    ·--region 9
     refine ab<|al 2<|ah (xg ft rfl rfl hq0 rfl) ?_
     refine ag<|ab<|al 1<|ah (aK (r:=((n+1:Nat):Int)) rfl rfl ((aQ (by omega) (by omega)).trans (congrArg some (by omega))) rfl) ?_
     refine ag ?_
     exact⟨.inl ⟨n+1,g1,by rw[jR g1,h3,List.nil_append];exact List.length_eq_zero_iff.1 hq0⟩,aM ⟨rfl,rfl,rfl,rfl,rfl,rfl,trivial⟩ ⟨rfl,rfl,trivial⟩ rfl,by show Bl.length-(n+1)<Bl.length-n;omega⟩
    ·--region 9
     refine ab<|al 2 ?_
     refine qm (q:=(cT (A0.getD 0 bn) (Bl.getD n bn)).length) (ys:=aI au ((cT (A0.getD 0 bn) (Bl.getD n bn)))) (zs':=aI au (cT (A0.getD 0 bn) (Bl.getD n bn))) ft rfl rfl (aG aO _) (hq0) (by have:=jI (a:=(A0.getD 0 bn)) (c:=(Bl.getD n bn));omega) (gP (by have:=jI (a:=(A0.getD 0 bn)) (c:=(Bl.getD n bn));omega)) rfl (rfl) rfl (fun cg2 rg2 hga2 hgb2 hgc2=>?_)
     refine ag<|ab<|al 1<|ah (aK (r:=((n+1:Nat):Int)) rfl rfl ((aQ (by omega) (by omega)).trans (congrArg some (by omega))) rfl) ?_
     refine ag ?_
     exact⟨.inr ⟨⟨n+1,cg2,rg2⟩,g1,by show(eH (A0.getD 0 bn) (Bl.take (n+1))).length≤cg2;rw[jR g1,h3];exact hga2,hgb2,by show rg2.length=(cg2-(eH (A0.getD 0 bn) (Bl.take (n+1))).length)*20;rw[jR g1,h3];exact hgc2⟩,aM ⟨rfl,rfl,rfl,rfl,congrArg (fun q=>some (DV.o 41 q cg2)) (by rw[jR g1,h3];rfl),rfl,trivial⟩ ⟨rfl,rfl,congrArg (fun q=>some (46,aI au q++rg2)) (by rw[jR g1,h3];rfl),trivial⟩ rfl,by show Bl.length-(n+1)<Bl.length-n;omega⟩
   ·have m1:[]=(eH (A0.getD 0 bn) Bl):=by rw[←h3,List.take_of_length_le (by have:=of_decide_eq_false hc1;omega)]
    refine DI (t:=6) rfl<|bj ?_
    exact⟨(),aM ⟨rfl,rfl,rfl,rfl,congrArg (fun q=>some (DV.v (.c (.s (List.length q) (aI au q))))) (show([]:List Pt)=(eH (A0.getD 0 bn) Bl) from m1),trivial⟩ ⟨rfl,rfl,trivial⟩ rfl⟩
  ·dsimp only at h2 h3 h4 h5
   have h6:(eH (A0.getD 0 bn) (Bl.take n)).length≤8:=Nat.le_trans vE (by rw[List.length_take];omega)
   show Dw _ _ ⟨59,[(1,.p 1 0),(2,.p 2 0),(4,.v (.c (.s ((A0).length) (aI aB (A0))))),(5,.v (.c (.s ((Bl).length) (aI aB (Bl))))),(6,.o 41 ((eH (A0.getD 0 bn) (Bl.take n)).length) c),(7,.v (.c (.i .i64 (n:Int))))],[(1,26,(([.i .u8 K]++[.i .u8 U]++[.i .i8 A]++[.i .i8 B]++[.i .i8 C]++[.i .i8 D]++[.i .i8 E]++[.i .i8 F])++([.i .u8 K']++[.i .u8 U']++[.i .i8 A']++[.i .i8 B']++[.i .i8 C']++[.i .i8 D']++[.i .i8 E']++[.i .i8 F'])++[.i .u8 N])),(2,48,([.b false]++cS++cS++[.b false]++ob++ob)),(41,46,aI au (eH (A0.getD 0 bn) (Bl.take n))++rs)]⟩ _
   refine aa<|aa<|ab<|ag ?_
   refine aw rfl (fun hc3=>?_) (fun hc3=>?_)
   ·have g1:n<Bl.length:=by have:=of_decide_eq_true hc3;omega
    have h7:=jI (a:=(A0.getD 0 bn)) (c:=(Bl.getD n bn))
    refine ao<|aa<|aJ<|aa<|aR 13 rfl rfl<|ap 1<|aj (aW (us:=aB (A0.getD 0 bn)++aI aB (A0.drop (0+1))) eu rfl rfl (by omega) (aG ak _) (bz ak (bi hA0)) rfl) ?_
    refine aj (bb (us:=aB (A0.getD 0 bn)) bd rfl (df _ _) (ak _) rfl) ?_
    refine ap 2<|aj (aW (us:=aB (Bl.getD n bn)++aI aB (Bl.drop (n+1))) eu rfl rfl (by omega) (aG ak _) (bz ak (bi g1)) rfl) ?_
    refine aj (bb (us:=aB (Bl.getD n bn)) bd rfl (df _ _) (ak _) rfl) ?_
    refine aj (am rfl (uj hg.g (hB _ (b8 g1))))<|bk<|az<|ar<|ab<|al 2 ?_
    refine lW (n:=(eH (A0.getD 0 bn) (Bl.take n)).length) (c:=c) (q:=((cT (A0.getD 0 bn) (Bl.getD n bn))).length) (us:=aI au (eH (A0.getD 0 bn) (Bl.take n))) (rest:=rs) (N':=(eH (A0.getD 0 bn) (Bl.take n)).length+(cT (A0.getD 0 bn) (Bl.getD n bn)).length) (zs':=aI au (eH (A0.getD 0 bn) (Bl.take n))++aI au (cT (A0.getD 0 bn) (Bl.getD n bn))) ft rfl rfl rfl (rfl) (aG aO _) (h5) (aG aO _) (by decide) (by omega) (by assumption) (by omega) (gP (by omega)) (.inl rfl) (rfl) (rfl) rfl (fun cg4 rg4 hga4 hgb4 hgc4=>?_)
    refine ag<|ab<|al 1<|ah (aK (r:=((n+1:Nat):Int)) rfl rfl ((aQ (by omega) (by omega)).trans (congrArg some (by omega))) rfl) ?_
    refine ag ?_
    exact⟨.inr ⟨⟨n+1,cg4,rg4⟩,g1,by show(eH (A0.getD 0 bn) (Bl.take (n+1))).length≤cg4;rw[jR g1,List.length_append];exact hga4,hgb4,by show rg4.length=(cg4-(eH (A0.getD 0 bn) (Bl.take (n+1))).length)*20;rw[jR g1,List.length_append];exact hgc4⟩,aM ⟨rfl,rfl,rfl,rfl,congrArg (fun q=>some (DV.o 41 q cg4)) (by rw[jR g1,List.length_append]),rfl,trivial⟩ ⟨rfl,rfl,congrArg (fun q=>some (46,q++rg4)) (by rw[jR g1,fA]),trivial⟩ rfl,by show Bl.length-(n+1)<Bl.length-n;omega⟩
   ·have m1:(eH (A0.getD 0 bn) (Bl.take n))=(eH (A0.getD 0 bn) Bl):=by rw[List.take_of_length_le (by have:=of_decide_eq_false hc3;omega)]
    refine cV (t:=6) (m:=20) (us:=aI au (eH (A0.getD 0 bn) (Bl.take n))) rfl rfl (iY (n:=(eH (A0.getD 0 bn) (Bl.take n)).length) (aG aO _) (by assumption) (by omega)) (by omega) (by assumption) (fX (aG aO _))<|bj ?_
    exact⟨(),aM ⟨rfl,rfl,rfl,rfl,congrArg (fun q=>some (DV.v (.c (.s (List.length q) (aI au q))))) m1,trivial⟩ ⟨rfl,rfl,trivial⟩ rfl⟩
 ·rintro⟨⟩
  show Dw _ _ ⟨59,[(1,.p 1 0),(2,.p 2 0),(4,.v (.c (.s ((A0).length) (aI aB (A0))))),(5,.v (.c (.s ((Bl).length) (aI aB (Bl))))),(6,.v (.c (.s (((eH (A0.getD 0 bn) Bl)).length) (aI au ((eH (A0.getD 0 bn) Bl))))))],[(1,26,(([.i .u8 K]++[.i .u8 U]++[.i .i8 A]++[.i .i8 B]++[.i .i8 C]++[.i .i8 D]++[.i .i8 E]++[.i .i8 F])++([.i .u8 K']++[.i .u8 U']++[.i .i8 A']++[.i .i8 B']++[.i .i8 C']++[.i .i8 D']++[.i .i8 E']++[.i .i8 F'])++[.i .u8 N])),(2,48,([.b false]++cS++cS++[.b false]++ob++ob))]⟩ _
  refine aa<|ab<|al 1<|ah (aW (us:=aB (A0.getD 0 bn)++aI aB (A0.drop (0+1))) eu rfl rfl (by omega) (aG ak _) (bz ak (bi hA0)) rfl) ?_
  refine ah (bb (us:=aB (A0.getD 0 bn)) bd rfl (df _ _) (ak _) rfl) ?_
  refine al 1<|ah (am rfl (mr hg.g (fun p hp=>(hCU p hp).1) (Nat.le_trans vE (by omega)) (fun p hp=>(hCU p hp).2) (iq hg.ne)))<|ag<|aa<|ab<|al 3<|ah (bF (r:=N) Kg Vx rfl (iU (by omega) (by omega)) rfl) ?_
  refine al 2<|ah (eF (r:=(ix:Int)) rfl rfl (by omega) (by rw[eix,Int.tmod_eq_emod_of_nonneg hN.1,Int.natCast_emod,Int.toNat_of_nonneg hN.1];rfl) rfl) ?_
  refine ah (aW (us:=aB ((t6 A0 Bl).getD ix bn)++aI aB ((t6 A0 Bl).drop (ix+1))) eu rfl rfl (by omega) (aG ak _) (bz ak (bi hix)) rfl) ?_
  refine ah (bb (us:=aB (((t6 A0 Bl).getD ix bn))) bd rfl (df _ _) (ak _) rfl) ?_
  refine bL (aZ bd rfl rfl rfl (ak _) rfl rfl) ?_
  refine ag<|an ?_
  rw[←eix]
  exact aq (fr (us:=aB (((t6 A0 Bl).getD ix bn))) bd rfl rfl (bv _) (ak _) (aE ae))
def Cv.fwd (c:Cv):Cv:=if decide (cP c.p c.q>0) then c.rev else c
def nZ (p:Cv):List Cv→Nat
 |[]=>0
 |x::l=>if dK x p≤0 then nZ p l+1 else 0
def xj (o:List Cv) (p:Cv):List Cv:=o.take (nZ p o)++p::o.drop (nZ p o)
def ez (l:List Cv):List Cv:=l.foldl (fun o c=>xj o c.fwd) []
def f8:Cv→List Pt
 | .seg _ _ _=>[]
 | .arc k w f t=>(if (Cv.arc k w f t).inner (jt k) then[jt k] else[])++(if (Cv.arc k w f t).inner (i9 k) then[i9 k] else[])
def bc (c:Cv):List Cv:=if c.isArc then eE c (f8 c) else[c]
def mi (c:Cv):List Cv:=ez (bc c)
theorem BZ (p:Cv): ∀l:List Cv,nZ p l≤l.length
 |[]=>Nat.le_refl _
 |x::l=>by
  unfold nZ
  split
  ·have:=BZ p l;simp;omega
  ·simp
theorem pD (p:Cv): ∀ {l:List Cv}{k:Nat},k≤l.length→(∀j,j<k→dK (l.getD j bn) p≤0)→(k=l.length∨ ¬dK (l.getD k bn) p≤0)→nZ p l=k
 |[],k,h,_,_=>by simp at h;subst h;rfl
 |x::l,0,_,_,h=>by
  rcases h with h|h
  ·simp at h
  ·unfold nZ;rw[if_neg (by simpa using h)]
 |x::l,k+1,h,hj,h2=>by
  unfold nZ
  rw[if_pos (by simpa using hj 0 (by omega)),pD p (l:=l) (k:=k) (by simpa using h) (fun j q=>by simpa using hj (j+1) (by omega)) (by simpa using h2)]
theorem Kv (o:List Cv) (p:Cv):(xj o p).length=o.length+1:=by
 have:=BZ p o
 unfold xj;rw[List.length_append,List.length_take,List.length_cons,List.length_drop];omega
theorem Iq {o:List Cv}{p x:Cv}(h:x∈xj o p):x∈o∨x=p:=by
 unfold xj at h
 rcases List.mem_append.1 h with h|h
 ·exact .inl (List.mem_of_mem_take h)
 ·rcases List.mem_cons.1 h with h|h
  ·exact .inr h
  ·exact .inl (List.mem_of_mem_drop h)
theorem BJ: ∀(l o:List Cv),(l.foldl (fun o c=>xj o c.fwd) o).length=o.length+l.length
 |[],o=>by simp
 |x::l,o=>by rw[List.foldl_cons,BJ l,Kv,List.length_cons];omega
theorem fj (l:List Cv):(ez l).length=l.length:=by unfold ez;rw[BJ];simp
theorem Cq: ∀(l o:List Cv) {x:Cv},x∈l.foldl (fun o c=>xj o c.fwd) o→x∈o∨ ∃c∈l,x=c.fwd
 |[],o,x,h=>.inl h
 |y::l,o,x,h=>by
  rw[List.foldl_cons] at h
  rcases Cq l _ h with h|⟨c,hc,e⟩
  ·rcases Iq h with h|h
   ·exact .inl h
   ·exact .inr ⟨y,by simp,h⟩
  ·exact .inr ⟨c,by simp[hc],e⟩
theorem sx {l:List Cv}{x:Cv}(h:x∈ez l): ∃c∈l,x=c.fwd:=(Cq l [] h).elim (fun e=>by cases e) id
theorem pi {l:List Cv}{n:Nat}(h:n<l.length):ez (l.take (n+1))=xj (ez (l.take n)) (l.getD n bn).fwd:=by
 unfold ez;rw[show l.take (n+1)=l.take n++[l.getD n bn] from by rw[List.take_add_one,bi (d:=bn) h];rfl,List.foldl_append];rfl
theorem A9 {l:List Cv}(h:0<l.length):ez (l.take 1)=[(l.getD 0 bn).fwd]:=by
 rw[pi h];rfl
theorem tS {c:Cv}(h:CvV c):CvV c.fwd:=by unfold Cv.fwd;split;exact h.rev;exact h
theorem xF {c:Cv}(h:decide (cP c.p c.q>0)=true):c.fwd=c.rev:=by unfold Cv.fwd;rw[h];rfl
theorem x8 {c:Cv}(h:decide (cP c.p c.q>0)=false):c.fwd=c:=by unfold Cv.fwd;rw[h];rfl
theorem en {c:Cv}(h:CvV c): ∀p∈f8 c,GP p∧c.on p=true:=by
 intro p hp
 cases c with
 |seg l f t=>cases hp
 |arc k w f t=>
  have hin: ∀ {x:Pt},(Cv.arc k w f t).inner x=true→(Cv.arc k w f t).on x=true:=fun h=>by unfold Cv.inner at h;rw[Bool.and_eq_true] at h;exact h.1
  rcases List.mem_append.1 hp with hp|hp
  ·split at hp
   ·rename_i e;cases List.mem_singleton.1 hp;exact⟨qY h.g.1 h.pos,hin e⟩
   ·cases hp
  ·split at hp
   ·rename_i e;cases List.mem_singleton.1 hp;exact⟨q6 h.g.1 h.pos,hin e⟩
   ·cases hp
theorem xP (c:Cv):(f8 c).length≤2:=by
 cases c with
 |seg l f t=>exact Nat.zero_le _
 |arc k w f t=>
  show((if _ then[jt k] else[])++(if _ then[i9 k] else[])).length≤2
  rw[List.length_append]
  split<;>split<;>exact Nat.le_of_ble_eq_true rfl
theorem nc {k:Ci}{w:Bool}{f t:Pt}(h1:(Cv.arc k w f t).inner (jt k)=false) (h2:(Cv.arc k w f t).inner (i9 k)=false):f8 (.arc k w f t)=[]:=by
 show(if _ then[jt k] else[])++(if _ then[i9 k] else[])=_;rw[h1,h2];rfl
theorem nk {k:Ci}{w:Bool}{f t:Pt}(h1:(Cv.arc k w f t).inner (jt k)=true) (h2:(Cv.arc k w f t).inner (i9 k)=false):f8 (.arc k w f t)=[jt k]:=by
 show(if _ then[jt k] else[])++(if _ then[i9 k] else[])=_;rw[h1,h2];rfl
theorem mZ {k:Ci}{w:Bool}{f t:Pt}(h1:(Cv.arc k w f t).inner (jt k)=false) (h2:(Cv.arc k w f t).inner (i9 k)=true):f8 (.arc k w f t)=[i9 k]:=by
 show(if _ then[jt k] else[])++(if _ then[i9 k] else[])=_;rw[h1,h2];rfl
theorem m7 {k:Ci}{w:Bool}{f t:Pt}(h1:(Cv.arc k w f t).inner (jt k)=true) (h2:(Cv.arc k w f t).inner (i9 k)=true):f8 (.arc k w f t)=[jt k,i9 k]:=by
 show(if _ then[jt k] else[])++(if _ then[i9 k] else[])=_;rw[h1,h2];rfl
theorem po {c:Cv}(h:CvV c): ∀d∈bc c,CvV d:=by
 intro d hd
 unfold bc at hd
 split at hd
 ·exact uu h (fun p hp=>(en h p hp).1) (fun p hp=>p9 (en h p hp).2) d hd
 ·cases List.mem_singleton.1 hd;exact h
theorem vX {c:Cv}:(bc c).length≤3:=by
 unfold bc
 split
 ·have h1:=fZ c (cr c ([c.p,c.q]++f8 c))
  have h2:=nC (c:=c) (l:=[c.p,c.q]++f8 c)
  have h3:=xP c
  rw[List.length_append] at h2
  unfold eE
  rw[h1]
  simp at h2⊢;omega
 ·exact Nat.le_of_ble_eq_true rfl
theorem pN {c:Cv}(h:CvV c):0<(bc c).length:=by
 unfold bc
 split
 ·have h1:=fZ c (cr c ([c.p,c.q]++f8 c))
  have h2:=iq (c:=c) (l:=f8 c) h.ne
  unfold eE
  omega
 ·exact Nat.zero_lt_one
theorem Qc {c:Cv}(h:CvV c): ∀d∈mi c,CvV d:=fun d hd=>by
 obtain⟨x,hx,e⟩:=sx hd
 rw[e];exact tS (po h x hx)
theorem rJ {c:Cv}:(mi c).length≤3:=by unfold mi;rw[fj];exact vX
theorem OF {O:List Cv}{rs:List CellD}{j:Nat}(h:j<O.length):((aI aB O++rs).drop (j*66)).take 66=aB (O.getD j bn):=by
 have hl:=aG ak O
 have h2:(j+1)*66≤O.length*66:=Nat.mul_le_mul_right _ h
 rw[List.drop_append_of_le_length (by omega),bz ak (bi (d:=bn) h),List.append_assoc]
 exact df _ _
theorem sw {O:List Cv}{rs:List CellD}(j:Nat):aI aB O++rs=aI aB (O.take j)++(aI aB (O.drop j)++rs):=by
 rw[←List.append_assoc,←fA,List.take_append_drop]
theorem AG {O:List Cv}{rs:List CellD}{j p c:Nat}(hp:O.length=p) (hj:j≤p) (hc:p≤c):((aI aB O++rs).drop (if j<c then j*66 else 0)).take ((p-j)*66)=aI aB (O.drop j):=by
 have h1:(aI aB (O.take j)).length=j*66:=by rw[aG ak,List.length_take,Nat.min_eq_left (by omega)]
 have h2:(aI aB (O.drop j)).length=(p-j)*66:=by rw[aG ak,List.length_drop,hp]
 by_cases h:j<c
 ·rw[if_pos h,sw j,←h1,List.drop_left,←h2,List.take_left]
 ·have e:p-j=0:=by omega
  rw[e,Nat.zero_mul,List.take_zero,List.drop_of_length_le (by omega)];rfl
theorem zQ {O:List Cv}{rs:List CellD}{j p c:Nat}(hp:O.length=p) (hj:j≤p) (hr:rs.length=(c-p)*66) (hc:p≤c):0<p-j→(if j<c then j*66 else 0)+(p-j)*66≤(aI aB O++rs).length:=by
 intro h
 rw[List.length_append,aG ak,hp]
 split<;>omega
theorem p6 {o:List Cv}{p:Cv}{j:Nat}(h:nZ p o=j):aI aB (o.take j)++(aB p++aI aB (o.drop j))=aI aB (xj o p):=by
 unfold xj;rw[h,fA];rfl
end Go.Proofs.YtkmdgigkbhmilaaGreat
