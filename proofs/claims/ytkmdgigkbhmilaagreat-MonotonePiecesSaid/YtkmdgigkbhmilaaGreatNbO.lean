/-Points and supports of curves:the program. -/
import Derived.Test.YtkmdgigkbhmilaaGreatNbN
namespace Go.Proofs.YtkmdgigkbhmilaaGreat
open Go Go.RowKit
theorem uU {a b c d:Rat}(hc:0≤c):iX (a-d) b (-0) 0 c 0=cm (a-d) b c:=by
 rw[jH hc Rat.le_refl,fK hc]
 exact congrArg bR (Re.ext fun n=>by unfold dX;simp only[bt,bp,bK,cJ];grind)
theorem yS {p q:Pt}(hp:GP p) (hq:GP q):Ok Tryz.prog 92 [.a (au p),.a (au q)] [.c (.i .i64 (cP p q))]:=i5 (qM (hp.a1.mono (by decide)) (hp.b1.mono (by decide)) (hp.a2.mono (by decide)) (hp.b2.mono (by decide)) (hp.c.mono (by decide)) (hq.a1.mono (by decide)) (hq.b1.mono (by decide)) (hq.a2.mono (by decide)) (hq.b2.mono (by decide)) (hq.c.mono (by decide)) ((hp.a1.sub hq.a1).mono (by decide)) ((hp.a2.sub hq.a2).mono (by decide))) (Cn (b9 hp) (b9 hq))
theorem ro {p q:Pt}(hp:GP p) (hq:GP q):Ok Tryz.prog 86 [.a (au p),.a (au q)] [.c (.b (cP p q==0))]:=gQ (Cx (hp.a1.mono (by decide)) (hp.b1.mono (by decide)) (hp.a2.mono (by decide)) (hp.b2.mono (by decide)) (hp.c.mono (by decide)) (hq.a1.mono (by decide)) (hq.b1.mono (by decide)) (hq.a2.mono (by decide)) (hq.b2.mono (by decide)) (hq.c.mono (by decide)) ((hp.a1.sub hq.a1).mono (by decide)) ((hp.a2.sub hq.a2).mono (by decide))) (by rw[Cn (b9 hp) (b9 hq)];rfl)
theorem Vg {p q:Pt}(hp:GP p) (hq:GP q):Ok Tryz.prog 76 [.a ((cR p.a1++cR p.b1++cR (zc p.b1 p.c))),.a ((cR q.a1++cR q.b1++cR (zc q.b1 q.c)))] [.c (.i .i64 (cx p q))]:=km (hp.a1.mono (by decide)) (hp.b1.mono (by decide)) (Rz.zc (hp.c.mono (by decide)) (by decide)) (hq.a1.mono (by decide)) (hq.b1.mono (by decide)) (Rz.zc (hq.c.mono (by decide)) (by decide)) ((hp.a1.sub hq.a1).mono (by decide)) (fW (b9 hp)) (fW (b9 hq))
theorem Wc {p q:Pt}(hp:GP p) (hq:GP q):Ok Tryz.prog 95 [.a ((cR p.a1++cR p.b1++cR (zc p.b1 p.c))),.a ((cR q.a1++cR q.b1++cR (zc q.b1 q.c)))] [.c (.b (cx p q==0))]:=DL (hp.a1.mono (by decide)) (hp.b1.mono (by decide)) (Rz.zc (hp.c.mono (by decide)) (by decide)) (hq.a1.mono (by decide)) (hq.b1.mono (by decide)) (Rz.zc (hq.c.mono (by decide)) (by decide)) ((hp.a1.sub hq.a1).mono (by decide)) (fW (b9 hp)) (fW (b9 hq))
theorem V1 {p:Pt}(hp:GP p) {v:Rat}(hv:Rz 400 v):Ok Tryz.prog 80 [.a ((cR p.a1++cR p.b1++cR (zc p.b1 p.c))),dR v] [.c (.i .i64 (lH p v))]:=i5 (tT (hp.a1.mono (by decide)) (hp.b1.mono (by decide)) (Rz.zc (hp.c.mono (by decide)) (by decide)) (hv.mono (by decide)) ((hp.a1.sub hv).mono (by decide)) (fW (b9 hp))) (uU (fW (b9 hp)))
theorem VV {p q:Pt}(hp:GP p) (hq:GP q):Ok Tryz.prog 76 [.a ((cR p.a2++cR p.b2++cR (zc p.b2 p.c))),.a ((cR q.a2++cR q.b2++cR (zc q.b2 q.c)))] [.c (.i .i64 (cy p q))]:=km (hp.a2.mono (by decide)) (hp.b2.mono (by decide)) (Rz.zc (hp.c.mono (by decide)) (by decide)) (hq.a2.mono (by decide)) (hq.b2.mono (by decide)) (Rz.zc (hq.c.mono (by decide)) (by decide)) ((hp.a2.sub hq.a2).mono (by decide)) (fW (b9 hp)) (fW (b9 hq))
theorem VX {p:Pt}(hp:GP p) {v:Rat}(hv:Rz 400 v):Ok Tryz.prog 80 [.a ((cR p.a2++cR p.b2++cR (zc p.b2 p.c))),dR v] [.c (.i .i64 (fT p v))]:=i5 (tT (hp.a2.mono (by decide)) (hp.b2.mono (by decide)) (Rz.zc (hp.c.mono (by decide)) (by decide)) (hv.mono (by decide)) ((hp.a2.sub hv).mono (by decide)) (fW (b9 hp))) (uU (fW (b9 hp)))
theorem mq {x y:Rat}(hx:Rz 60000 x) (hy:Rz 60000 y):Ok Tryz.prog 153 [dR x,dR y] [dR (x+y)]:=by
 refine Ok.fn Tryz.func153 8 [.cell 4 35] rfl<|aa<|ab<|al 2<|aC (ai bJ rfl) rfl<|ar<|aa<|ab<|al 2<|ah (am rfl (kS (aX hx) (aX hy)))<|ag<|an ?_
 exact aq (a7 aD rfl ae)
theorem sr {x y:Rat}(hx:Rz 60000 x) (hy:Rz 60000 y):Ok Tryz.prog 152 [dR x,dR y] [dR (x-y)]:=by
 refine Ok.fn Tryz.func152 8 [.cell 4 35] rfl<|aa<|ab<|al 2<|aC (ai bJ rfl) rfl<|ar<|aa<|ab<|al 2<|ah (am rfl (fE (aX hx) (aX hy)))<|ag<|an ?_
 exact aq (a7 aD rfl ae)
theorem ga {x y:Rat}(hx:Rz 60000 x) (hy:Rz 60000 y):Ok Tryz.prog 154 [dR x,dR y] [dR (x*y)]:=by
 refine Ok.fn Tryz.func154 8 [.cell 4 35] rfl<|aa<|ab<|al 2<|aC (ai bJ rfl) rfl<|ar<|aa<|ab<|al 2<|ah (am rfl (dd (aX hx) (aX hy)))<|ag<|an ?_
 exact aq (a7 aD rfl ae)
theorem IS {a b m:Rat}(ha:Rz 20000 a) (hb:Rz 20000 b) (hm:Rz 20000 m):Ok Tryz.prog 151 [dR a,dR b,dR m] [.c (.i .i64 (cm a b m))]:=by
 have ka:Rz 60000 a:=ha.m_
 have kb:Rz 60000 b:=hb.m_
 have hp:=ei (dm b 0) (dm m 0)
 have hp2:=ei (dm a 0) (dm (a*a) (b*b*m))
 refine Ok.fn Tryz.func151 40 [.tmp 6] rfl<|aa<|ab<|ag<|aa<|aR 9 rfl rfl<|ap 1<|aj (am rfl (dh))<|ap 1<|aj (am rfl (dh))<|ap 1<|aj (am rfl (dh))<|aj (aK (r:=(aV b 0)*(aV m 0)) rfl rfl (dg (by omega) (by omega)) rfl) ?_
 refine bk<|az<|ar<|aa<|aJ<|aa<|ab<|al 2 ?_
 refine cg (bN rfl) (fun c1 hb1=>?_)
 cases c1
 ·refine ag ?_
  refine aw rfl (fun hc2=>?_) (fun hc2=>?_)
  ·refine aa<|ab<|ag<|an ?_
   unfold cm
   rw[rA hc2]
   exact aq (aE ae)
  ·refine aa<|ab<|ag ?_
   refine aw rfl (fun hc3=>?_) (fun hc3=>?_)
   ·refine aa<|ab<|ag<|an ?_
    unfold cm
    rw[rK hc3]
    exact aq (aE ae)
   ·refine ao<|aa<|aR 12 rfl rfl<|ap 3<|aj (am rfl (ga (aX ha) (aX ha)))<|ap 2<|aj (am rfl (ga (aX hb) (aX hb)))<|ap 1<|aj (am rfl (ga (aX (Rz.mul hb hb)) (aX hm)))<|aj (am rfl (kJ (aX (Rz.mul ha ha)) (aX (Rz.mul (Rz.mul hb hb) hm))))<|aj (aK (r:=(aV a 0)*(aV (a*a) ((b*b)*m))) rfl rfl (dg (by omega) (by omega)) rfl) ?_
    refine bk<|az<|ar<|an ?_
    unfold cm
    rw[su hc3 hb1 hc2]
    exact aq (aE ae)
 ·refine ag<|bg rfl<|aa<|ab<|ag<|an ?_
  unfold cm
  rw[sH hb1]
  exact aq (aE ae)
theorem zJ {x y:Int}(hx:Bd x) (hy:Bd y):Ok Tryz.prog 230 [.a (([.i .i64 x]++[.i .i64 y]))] [.a (([.i .i64 (-y)]++[.i .i64 (-x)]))]:=by
 unfold Bd at hx hy
 refine Ok.fn Tryz.func230 10 [.cell 2 202] rfl<|aa<|ab<|al 1<|aC (ai dB rfl) rfl<|ar<|aa<|ab<|al 2<|ah (dD (r:= -y) rfl (by rw[Int.zero_sub];exact iU (by omega) (by omega)) rfl) ?_
 refine al 2<|ah (dD (r:= -x) rfl (by rw[Int.zero_sub];exact iU (by omega) (by omega)) rfl) ?_
 refine ah (aN (us:=([.i .i64 (-y)]++[.i .i64 (-x)])) lk dB rfl rfl rfl) ?_
 refine ag<|an ?_
 exact aq (a7 gi rfl ae)
theorem K5 {a b c v:Rat}(ha:Rz 40000 a) (hb:Rz 40000 b) (hc:Rz 40000 c) (hv:Rz 40000 v):Ok Tryz.prog 232 [dR a,dR b,dR c,dR v] [.a (([.i .i64 (yp a b c v)]++[.i .i64 (yl a b c v)])),.c (.b (C5 a b c v))]:=by
 refine Ok.fn Tryz.func232 40 [.cell 8 202,.tmp 9] rfl<|aa<|ab<|al 4<|aC (ai dB rfl) rfl<|ag<|aa<|ab<|al 3<|ah (aN (us:=(cR a++cR b++cR c)) lQ de rfl rfl rfl) ?_
 refine ah (am rfl (mg (by assumption) (by assumption) (by assumption)))<|al 3<|aC (ai dB rfl) rfl<|ag<|aa<|ab<|al 1<|ah (am rfl (fI (aX hv)))<|al 3<|aC (ai dB rfl) rfl<|ag<|aa<|aa<|ab ?_
 refine al 2 ?_
 refine cg (bN rfl) (fun c1 hb1=>?_)
 cases c1
 ·refine ag ?_
  refine aw rfl (fun hc2=>?_) (fun hc2=>?_)
  ·have n1:tY a b c v=false:=by unfold tY;rw[dF hb1,fM hc2];rfl
   refine aa<|ab<|ah (aN (us:=([.i .i64 0]++[.i .i64 0])) lk dB rfl rfl rfl) ?_
   refine ag<|an ?_
   rw[(xJ n1).1,(xJ n1).2.1,(xJ n1).2.2]
   exact aq (a7 gi rfl (aE ae))
  ·have n1:tY a b c v=true:=by unfold tY;rw[dF hb1,dF hc2];rfl
   refine ao<|aa<|aR 6 rfl rfl<|ap 2<|aj (am rfl (zJ (m8 _) (mS _)))<|aj (am rfl (mR (O0 _ _ _) (OT _ _ _) (Bd.neg (mS _)) (Bd.neg (m8 _))))<|bk<|az<|ag<|an ?_
   rw[(Am n1).1,(Am n1).2.1,(Am n1).2.2]
   exact aq (a7 gi rfl (aE ae))
 ·have n1:tY a b c v=false:=by unfold tY;rw[fM hb1];rfl
  refine ag<|bg rfl<|aa<|ab<|ah (aN (us:=([.i .i64 0]++[.i .i64 0])) lk dB rfl rfl rfl) ?_
  refine ag<|an ?_
  rw[(xJ n1).1,(xJ n1).2.1,(xJ n1).2.2]
  exact aq (a7 gi rfl (aE ae))
theorem Nk {k:Ci}(hk:GK k) {p:Pt}(hp:GP p):Ok Tryz.prog 156 [.a (ca k),.a (au p)] [.c (.i .i64 (Pp k p)),.c (.b (OV k p))]:=by
 refine Ok.fn Tryz.func156 95 [.tmp 4,.tmp 5] rfl<|aa<|ab<|ag<|aa<|ab<|al 1<|ah (aF (cR p.a1) aD rfl)<|al 1<|ah (aF (cR p.b1) aD rfl)<|al 1<|ah (aF (cR p.c) aD rfl)<|al 1<|ah (aF (cR k.x) aD rfl) ?_
 refine ah (am rfl (K5 (hp.a1.m_) (hp.b1.m_) (hp.c.m_) (hk.x.m_)))<|al 3<|aC (ai dB rfl) rfl<|ag<|aa<|ab<|al 1<|ah (aF (cR p.a2) aD rfl)<|al 1<|ah (aF (cR p.b2) aD rfl)<|al 1<|ah (aF (cR p.c) aD rfl)<|al 1<|ah (aF (cR k.y) aD rfl) ?_
 refine ah (am rfl (K5 (hp.a2.m_) (hp.b2.m_) (hp.c.m_) (hk.y.m_)))<|al 3<|aC (ai dB rfl) rfl<|ag<|aa<|ab<|al 1<|ah (aF (cR k.q) aD rfl)<|ah (am rfl (fI (hk.q.m_)))<|al 3<|aC (ai dB rfl) rfl<|ag<|aa<|aa ?_
 refine ab<|al 2 ?_
 refine cg (bN rfl) (fun c1 hb1=>?_)
 cases c1
 ·refine al 3 ?_
  refine cg (bN rfl) (fun c2 hb2=>?_)
  cases c2
  ·refine ag ?_
   refine aw rfl (fun hc3=>?_) (fun hc3=>?_)
   ·refine aa<|ab<|ag<|an ?_
    have m0:L6 k p=false:=by unfold L6;rw[show C5 p.a1 p.b1 p.c k.x=true from dF hb1,show C5 p.a2 p.b2 p.c k.y=true from dF hb2,show gh k.q=false from fM hc3];rfl
    have m1:Fh k p=false:=by unfold Fh;rw[m0];rfl
    have m2:CW k p=false:=by unfold CW;rw[m1];rfl
    have m3:xn k p=false:=by unfold xn;rw[m2];rfl
    rw[(m9 m3).1,(m9 m3).2]
    exact aq (aE (aE ae))
   ·have n1:L6 k p=true:=by unfold L6;rw[show C5 p.a1 p.b1 p.c k.x=true from dF hb1,show C5 p.a2 p.b2 p.c k.y=true from dF hb2,show gh k.q=true from dF hc3];rfl
    refine ao<|aa<|ab<|al 2<|ah (am rfl (oV (AF _ _ _ _) (yX _ _ _ _) (AF _ _ _ _) (yX _ _ _ _)))<|al 3<|aC (ai dB rfl) rfl<|ag<|aa<|ab<|al 2<|ah (am rfl (oV (AF _ _ _ _) (yX _ _ _ _) (AF _ _ _ _) (yX _ _ _ _)))<|al 3<|aC (ai dB rfl) rfl ?_
    refine ag<|aa<|aa<|ab<|al 2 ?_
    refine cg (bN rfl) (fun c4 hb4=>?_)
    cases c4
    ·refine ag ?_
     refine aw rfl (fun hc5=>?_) (fun hc5=>?_)
     ·refine aa<|ab<|ag<|an ?_
      have m1:Fh k p=false:=by unfold Fh;rw[n1,show NO k p=true from dF hb4,show Q3 k p=false from fM hc5];rfl
      have m2:CW k p=false:=by unfold CW;rw[m1];rfl
      have m3:xn k p=false:=by unfold xn;rw[m2];rfl
      rw[(m9 m3).1,(m9 m3).2]
      exact aq (aE (aE ae))
     ·have n2:Fh k p=true:=by unfold Fh;rw[n1,show NO k p=true from dF hb4,show Q3 k p=true from dF hc5];rfl
      refine ao<|aa<|ab<|al 2<|ah (am rfl (mR Gc.1 Gc.2 Fx.1 Fx.2))<|al 3<|aC (ai dB rfl) rfl<|ag<|aa<|aa<|ab<|ag ?_
      refine aw rfl (fun hc6=>?_) (fun hc6=>?_)
      ·refine aa<|ab<|ag<|an ?_
       have m2:CW k p=false:=by unfold CW;rw[n2,show VM k p=false from fM hc6];rfl
       have m3:xn k p=false:=by unfold xn;rw[m2];rfl
       rw[(m9 m3).1,(m9 m3).2]
       exact aq (aE (aE ae))
      ·have n3:CW k p=true:=by unfold CW;rw[n2,show VM k p=true from dF hc6];rfl
       refine ao<|aa<|bZ 10 [15,999999] aU (by kernel_rfl) rfl rfl<|ap 2<|aj (am rfl (zJ (m8 _) (mS _)))<|aj (am rfl (mR LK.1 LK.2 (Bd.neg (mS _)) (Bd.neg (m8 _))))<|ap 3<|ba (ai dB rfl) rfl<|gz (fG gi rfl) rfl rfl rfl rfl<|bk<|bG<|ar<|aa<|aa ?_
       refine ab<|ag ?_
       refine aw rfl (fun hc7=>?_) (fun hc7=>?_)
       ·refine aa<|ab<|ag<|an ?_
        have m3:xn k p=false:=by unfold xn;rw[n3,show Vn k p=false from fM hc7];rfl
        rw[(m9 m3).1,(m9 m3).2]
        exact aq (aE (aE ae))
       ·have n4:xn k p=true:=by unfold xn;rw[n3,show Vn k p=true from dF hc7];rfl
        refine ao<|aa<|ab<|al 1<|ah (am rfl (wl))<|ag<|an ?_
        rw[(Dp n4).1,(Dp n4).2]
        exact aq (aE (aE ae))
    ·refine ag<|bg rfl<|aa<|ab<|ag<|an ?_
     have m1:Fh k p=false:=by unfold Fh;rw[n1,show NO k p=false from fM hb4];rfl
     have m2:CW k p=false:=by unfold CW;rw[m1];rfl
     have m3:xn k p=false:=by unfold xn;rw[m2];rfl
     rw[(m9 m3).1,(m9 m3).2]
     exact aq (aE (aE ae))
  ·refine ag<|bg rfl<|aa<|ab<|ag<|an ?_
   have m0:L6 k p=false:=by unfold L6;rw[show C5 p.a1 p.b1 p.c k.x=true from dF hb1,show C5 p.a2 p.b2 p.c k.y=false from fM hb2];rfl
   have m1:Fh k p=false:=by unfold Fh;rw[m0];rfl
   have m2:CW k p=false:=by unfold CW;rw[m1];rfl
   have m3:xn k p=false:=by unfold xn;rw[m2];rfl
   rw[(m9 m3).1,(m9 m3).2]
   exact aq (aE (aE ae))
 ·refine ag<|bg rfl<|aa<|ab<|ag<|an ?_
  have m0:L6 k p=false:=by unfold L6;rw[show C5 p.a1 p.b1 p.c k.x=false from fM hb1];rfl
  have m1:Fh k p=false:=by unfold Fh;rw[m0];rfl
  have m2:CW k p=false:=by unfold CW;rw[m1];rfl
  have m3:xn k p=false:=by unfold xn;rw[m2];rfl
  rw[(m9 m3).1,(m9 m3).2]
  exact aq (aE (aE ae))
theorem LD (k:Ci) (p:Pt):(p.a1-k.x)*(p.a1-k.x)+(p.a2-k.y)*(p.a2-k.y)+p.c*(p.b1*p.b1+p.b2*p.b2)-k.q=Gu k p:=by unfold Gu F8;grind
theorem I3 {k:Ci}(hk:GK k) {p:Pt}(hp:GP p):Ok Tryz.prog 81 [.a (ca k),.a (au p)] [.c (.i .i64 (iu k p))]:=by
 have b1:=zY k p
 have b2:=fq (Gu k p) (Al k p) p.c
 have e3:=Uo (k:=k) hp
 have wA:=Js hk hp
 have wB:=Ls hk hp
 refine Ok.fn Tryz.func81 72 [.tmp 4] rfl<|aa<|ab<|ag<|aa<|aa<|ab<|al 2<|ah (am rfl (Nk hk hp))<|ag<|aa<|ab<|ag ?_
 refine aw rfl (fun hc1=>?_) (fun hc1=>?_)
 ·have e4:=Tv hp hc1
  refine aa<|ab<|al 1<|ah (dD (r:= -Pp k p) rfl (by rw[Int.zero_sub];exact iU (by omega) (by omega)) rfl) ?_
  refine ag<|an ?_
  rw[←e4]
  exact aq (aE ae)
 ·refine ao<|aa<|aR 12 rfl rfl<|ap 1<|aj (aF (cR p.a1) aD rfl)<|ap 1<|aj (aF (cR k.x) aD rfl)<|aj (am rfl (sr (aX (hp.a1)) (aX (hk.x))))<|ap 1<|aj (aF (cR p.a2) aD rfl)<|ap 1<|aj (aF (cR k.y) aD rfl)<|aj (am rfl (sr (aX (hp.a2)) (aX (hk.y))))<|ba (ai bJ rfl) rfl ?_
  refine ba (ai bJ rfl) rfl<|aY<|bG<|ag<|aa<|bZ 8 [9,10,999999] aU (by kernel_rfl) rfl rfl<|ap 1<|aj (aF (cR p.b1) aD rfl)<|ap 1<|aj (aF (cR p.b2) aD rfl)<|ba (ai bJ rfl) rfl<|ba (ai bJ rfl) rfl<|gz (fG aD rfl) rfl rfl rfl rfl<|gz (fG aD rfl) rfl rfl rfl rfl ?_
  refine aY<|lI<|ar<|aa<|aR 19 rfl rfl<|ap 2<|aj (am rfl (ga (aX (Rz.sub (hp.a1) (hk.x))) (aX (Rz.sub (hp.a1) (hk.x)))))<|ap 2<|aj (am rfl (ga (aX (Rz.sub (hp.a2) (hk.y))) (aX (Rz.sub (hp.a2) (hk.y)))))<|aj (am rfl (mq (aX (Rz.mul (Rz.sub (hp.a1) (hk.x)) (Rz.sub (hp.a1) (hk.x)))) (aX (Rz.mul (Rz.sub (hp.a2) (hk.y)) (Rz.sub (hp.a2) (hk.y))))))<|ap 1<|aj (aF (cR p.c) aD rfl)<|ap 2<|aj (am rfl (ga (aX (hp.b1)) (aX (hp.b1)))) ?_
  refine ap 2<|aj (am rfl (ga (aX (hp.b2)) (aX (hp.b2))))<|aj (am rfl (mq (aX (Rz.mul (hp.b1) (hp.b1))) (aX (Rz.mul (hp.b2) (hp.b2)))))<|aj (am rfl (ga (aX (hp.c)) (aX (Rz.add (Rz.mul (hp.b1) (hp.b1)) (Rz.mul (hp.b2) (hp.b2))))))<|aj (am rfl (mq (aX (Rz.add (Rz.mul (Rz.sub (hp.a1) (hk.x)) (Rz.sub (hp.a1) (hk.x))) (Rz.mul (Rz.sub (hp.a2) (hk.y)) (Rz.sub (hp.a2) (hk.y))))) (aX (Rz.mul (hp.c) (Rz.add (Rz.mul (hp.b1) (hp.b1)) (Rz.mul (hp.b2) (hp.b2)))))))<|ba (ai bJ rfl) rfl<|aY<|bl<|ag<|aa<|aR 8 rfl rfl<|ap 2<|aj (am rfl (ga (aX (Rz.sub (hp.a1) (hk.x))) (aX (hp.b1))))<|ap 2 ?_
  refine aj (am rfl (ga (aX (Rz.sub (hp.a2) (hk.y))) (aX (hp.b2))))<|aj (am rfl (mq (aX (Rz.mul (Rz.sub (hp.a1) (hk.x)) (hp.b1))) (aX (Rz.mul (Rz.sub (hp.a2) (hk.y)) (hp.b2)))))<|ba (ai bJ rfl) rfl<|aY<|bl<|ag<|aa<|aR 12 rfl rfl<|ap 2<|aj (aF (cR k.q) aD rfl)<|aj (am rfl (sr (aX (Rz.add (Rz.add (Rz.mul (Rz.sub (hp.a1) (hk.x)) (Rz.sub (hp.a1) (hk.x))) (Rz.mul (Rz.sub (hp.a2) (hk.y)) (Rz.sub (hp.a2) (hk.y)))) (Rz.mul (hp.c) (Rz.add (Rz.mul (hp.b1) (hp.b1)) (Rz.mul (hp.b2) (hp.b2)))))) (aX (hk.q))))<|ap 2<|aj (am rfl (mq (aX (Rz.add (Rz.mul (Rz.sub (hp.a1) (hk.x)) (hp.b1)) (Rz.mul (Rz.sub (hp.a2) (hk.y)) (hp.b2)))) (aX (Rz.add (Rz.mul (Rz.sub (hp.a1) (hk.x)) (hp.b1)) (Rz.mul (Rz.sub (hp.a2) (hk.y)) (hp.b2))))))<|ap 1 ?_
  refine aj (aF (cR p.c) aD rfl)<|aj (am rfl (i5 (c:=cm (Gu k p) (Al k p) p.c) (IS (by rw[LD];exact wA.m_) (wB.m_) (hp.c.m_)) (by rw[LD];rfl)))<|aj (dD (r:= -cm (Gu k p) (Al k p) p.c) rfl (mN b2) rfl) ?_
  refine bk<|az<|ar<|an ?_
  rw[←e3]
  exact aq (aE ae)
theorem Jb {n a b c:Rat}(hn:Rz 40000 n):Ok Tryz.prog 227 [dR n,.a (([.i .i64 (dG a b c)]++[.i .i64 (dH a b c)])),.c (.b (dO a b c))] [.a (([.i .i64 (CX n a b c)]++[.i .i64 (C4 n a b c)])),.c (.b (CY n a b c))]:=by
 refine Ok.fn Tryz.func227 27 [.cell 6 202,.tmp 7] rfl<|aa<|ab<|al 2<|aC (ai dB rfl) rfl<|ag<|aa<|ab<|al 1<|ah (am rfl (fI (aX hn)))<|al 3<|aC (ai dB rfl) rfl<|ag<|aa ?_
 refine aa<|ab<|al 2 ?_
 refine cg (bN rfl) (fun c1 hb1=>?_)
 cases c1
 ·refine ag ?_
  refine aw rfl (fun hc2=>?_) (fun hc2=>?_)
  ·have n1:tV n a b c=false:=by unfold tV;rw[dF hb1,fM hc2];rfl
   refine aa<|ab<|ah (aN (us:=([.i .i64 0]++[.i .i64 0])) lk dB rfl rfl rfl) ?_
   refine ag<|an ?_
   rw[(xT n1).1,(xT n1).2.1,(xT n1).2.2]
   exact aq (a7 gi rfl (aE ae))
  ·have n1:tV n a b c=true:=by unfold tV;rw[dF hb1,dF hc2];rfl
   refine ao<|aa<|ab<|al 2<|ah (am rfl (oV (m8 _) (mS _) (O0 _ _ _) (OT _ _ _)))<|ag<|an ?_
   rw[(zS n1).1,(zS n1).2.1,(zS n1).2.2]
   exact aq (a7 gi rfl (aE ae))
 ·have n1:tV n a b c=false:=by unfold tV;rw[fM hb1];rfl
  refine ag<|bg rfl<|aa<|ab<|ah (aN (us:=([.i .i64 0]++[.i .i64 0])) lk dB rfl rfl rfl) ?_
  refine ag<|an ?_
  rw[(xT n1).1,(xT n1).2.1,(xT n1).2.2]
  exact aq (a7 gi rfl (aE ae))
theorem SE {l:Ln}(hl:GL l) {p:Pt}(hp:GP p):Ok Tryz.prog 150 [.a (dV l),.a (au p)] [.c (.i .i64 (Sd l p)),.c (.b (Rt l p))]:=by
 refine Ok.fn Tryz.func150 88 [.tmp 4,.tmp 5] rfl<|aa<|ab<|ag<|aa<|ab<|al 1<|ah (aF (cR p.a1) aD rfl)<|al 1<|ah (aF (cR p.b1) aD rfl)<|al 1<|ah (aF (cR p.c) aD rfl)<|ah (aN (us:=(cR p.a1++cR p.b1++cR p.c)) lQ de rfl rfl rfl) ?_
 refine ah (am rfl (mg (hp.a1.m_) (hp.b1.m_) (hp.c.m_)))<|al 3<|aC (ai dB rfl) rfl<|ag<|aa<|ab<|al 1<|ah (aF (cR l.a) aD rfl)<|al 2<|ah (am rfl (Jb (hl.a.m_)))<|ag<|aa<|ab<|al 1 ?_
 refine ah (aF (cR p.a2) aD rfl)<|al 1<|ah (aF (cR p.b2) aD rfl)<|al 1<|ah (aF (cR p.c) aD rfl)<|ah (aN (us:=(cR p.a2++cR p.b2++cR p.c)) lQ de rfl rfl rfl) ?_
 refine ah (am rfl (mg (hp.a2.m_) (hp.b2.m_) (hp.c.m_)))<|al 3<|aC (ai dB rfl) rfl<|ag<|aa<|ab<|al 1<|ah (aF (cR l.b) aD rfl)<|al 2<|ah (am rfl (Jb (hl.b.m_)))<|ag<|aa<|ab<|al 1 ?_
 refine ah (aF (cR l.c) aD rfl)<|ah (am rfl (fI (hl.c.m_)))<|al 3<|aC (ai dB rfl) rfl<|ag<|aa<|aa<|ab<|al 2 ?_
 refine cg (bN rfl) (fun c1 hb1=>?_)
 cases c1
 ·refine al 3 ?_
  refine cg (bN rfl) (fun c2 hb2=>?_)
  cases c2
  ·refine ag ?_
   refine aw rfl (fun hc3=>?_) (fun hc3=>?_)
   ·refine aa<|ab<|ag<|an ?_
    have m0:Ma l p=false:=by unfold Ma;rw[show CY l.a p.a1 p.b1 p.c=true from dF hb1,show CY l.b p.a2 p.b2 p.c=true from dF hb2,show gh l.c=false from fM hc3];rfl
    have m1:HJ l p=false:=by unfold HJ;rw[m0];rfl
    have m2:AZ l p=false:=by unfold AZ;rw[m1];rfl
    rw[(qJ m2).1,(qJ m2).2]
    exact aq (aE (aE ae))
   ·have n1:Ma l p=true:=by unfold Ma;rw[show CY l.a p.a1 p.b1 p.c=true from dF hb1,show CY l.b p.a2 p.b2 p.c=true from dF hb2,show gh l.c=true from dF hc3];rfl
    refine ao<|aa<|ab<|al 2<|ah (am rfl (mR (IW _ _ _ _) (IB _ _ _ _) (IW _ _ _ _) (IB _ _ _ _)))<|al 3<|aC (ai dB rfl) rfl<|ag<|aa<|aa<|ab<|ag ?_
    refine aw rfl (fun hc4=>?_) (fun hc4=>?_)
    ·refine aa<|ab<|ag<|an ?_
     have m1:HJ l p=false:=by unfold HJ;rw[n1,show U7 l p=false from fM hc4];rfl
     have m2:AZ l p=false:=by unfold AZ;rw[m1];rfl
     rw[(qJ m2).1,(qJ m2).2]
     exact aq (aE (aE ae))
    ·have n2:HJ l p=true:=by unfold HJ;rw[n1,show U7 l p=true from dF hc4];rfl
     refine ao<|aa<|aa<|bZ 8 [12,999999] aU (by kernel_rfl) rfl rfl<|tF (by kernel_rfl) (Vr gi rfl)<|ap 1<|aj (am rfl (zJ (m8 _) (mS _)))<|aj (am rfl (mR KW.1 KW.2 (Bd.neg (mS _)) (Bd.neg (m8 _))))<|ap 3<|gw (fG gi rfl) rfl rfl rfl rfl<|aY<|bl<|ag<|aa ?_
     refine ab<|ag ?_
     refine aw rfl (fun hc5=>?_) (fun hc5=>?_)
     ·refine aa<|ab<|ag<|an ?_
      have m2:AZ l p=false:=by unfold AZ;rw[n2,show VI l p=false from fM hc5];rfl
      rw[(qJ m2).1,(qJ m2).2]
      exact aq (aE (aE ae))
     ·have n3:AZ l p=true:=by unfold AZ;rw[n2,show VI l p=true from dF hc5];rfl
      refine ao<|aa<|ab<|al 1<|ah (am rfl (wl))<|ag<|an ?_
      rw[(D5 n3).1,(D5 n3).2]
      exact aq (aE (aE ae))
  ·refine ag<|bg rfl<|aa<|ab<|ag<|an ?_
   have m0:Ma l p=false:=by unfold Ma;rw[show CY l.a p.a1 p.b1 p.c=true from dF hb1,show CY l.b p.a2 p.b2 p.c=false from fM hb2];rfl
   have m1:HJ l p=false:=by unfold HJ;rw[m0];rfl
   have m2:AZ l p=false:=by unfold AZ;rw[m1];rfl
   rw[(qJ m2).1,(qJ m2).2]
   exact aq (aE (aE ae))
 ·refine ag<|bg rfl<|aa<|ab<|ag<|an ?_
  have m0:Ma l p=false:=by unfold Ma;rw[show CY l.a p.a1 p.b1 p.c=false from fM hb1];rfl
  have m1:HJ l p=false:=by unfold HJ;rw[m0];rfl
  have m2:AZ l p=false:=by unfold AZ;rw[m1];rfl
  rw[(qJ m2).1,(qJ m2).2]
  exact aq (aE (aE ae))
theorem PZ {l:Ln}(hl:GL l) {p:Pt}(hp:GP p):Ok Tryz.prog 78 [.a (dV l),.a (au p)] [.c (.i .i64 (d9 l p))]:=by
 have e3:=QC (l:=l) hp
 have wA:=FR hl hp
 have wB:=EA hl hp
 refine Ok.fn Tryz.func78 43 [.tmp 4] rfl<|aa<|ab<|ag<|aa<|aa<|ab<|al 2<|ah (am rfl (SE hl hp))<|ag<|aa<|ab<|ag ?_
 refine aw rfl (fun hc1=>?_) (fun hc1=>?_)
 ·have e4:=MX hp hc1
  refine aa<|ab<|ag<|an ?_
  rw[←e4]
  exact aq (aE ae)
 ·refine ao<|aa<|aR 29 rfl rfl<|ap 1<|aj (aF (cR l.a) aD rfl)<|ap 1<|aj (aF (cR p.a1) aD rfl)<|aj (am rfl (ga (aX (hl.a)) (aX (hp.a1))))<|ap 1<|aj (aF (cR l.b) aD rfl)<|ap 1<|aj (aF (cR p.a2) aD rfl)<|aj (am rfl (ga (aX (hl.b)) (aX (hp.a2))))<|aj (am rfl (mq (aX (Rz.mul (hl.a) (hp.a1))) (aX (Rz.mul (hl.b) (hp.a2))))) ?_
  refine ap 1<|aj (aF (cR l.c) aD rfl)<|aj (am rfl (sr (aX (Rz.add (Rz.mul (hl.a) (hp.a1)) (Rz.mul (hl.b) (hp.a2)))) (aX (hl.c))))<|ap 1<|aj (aF (cR l.a) aD rfl)<|ap 1<|aj (aF (cR p.b1) aD rfl)<|aj (am rfl (ga (aX (hl.a)) (aX (hp.b1))))<|ap 1<|aj (aF (cR l.b) aD rfl)<|ap 1<|aj (aF (cR p.b2) aD rfl)<|aj (am rfl (ga (aX (hl.b)) (aX (hp.b2))))<|aj (am rfl (mq (aX (Rz.mul (hl.a) (hp.b1))) (aX (Rz.mul (hl.b) (hp.b2))))) ?_
  refine ap 1<|aj (aF (cR p.c) aD rfl)<|aj (am rfl ((show Ok Tryz.prog 151 _ [.c (.i .i64 (cm (vA l p) (vB l p) p.c))] from IS (wA.m_) (wB.m_) (hp.c.m_))))<|bk<|az<|ar<|an ?_
  rw[←e3]
  exact aq (aE ae)
theorem qd {a b c:Rat}(ha:Rz 20000 a) (hb:Rz 20000 b) (hc:Rz 20000 c) (h0: ¬c<0) (hs:go c=true):Ok Tryz.prog 57 [dR a,dR b,dR c] [.a ((cR (a+b*rt c)++cR 0++cR 0)),.c (.i .i64 0)]:=by
 have kt:Rz 20000 (rt c):=hc.rt
 have k1:Rz 60000 (b*rt c):=(hb.mul hc.rt).m_
 refine Ok.fn Tryz.func57 30 [.cell 6 49,.tmp 7] rfl<|aa<|ab<|al 3<|aC (ai de rfl) rfl<|ag<|aa<|aa<|ab<|al 1<|ah (am rfl (dh))<|ag ?_
 refine aw rfl (fun hc1=>?_) (fun hc1=>?_)
 ·exact absurd (Bx hc1) h0
 ·refine ao<|aa<|aa<|ab<|al 1<|ah (am rfl (xY (aX hc)))<|al 3<|aC (ai bJ rfl) rfl<|ag<|aa<|ab<|ag ?_
  refine aw rfl (fun hc2=>?_) (fun hc2=>?_)
  ·refine Dw.weak (σ':=⟨30,[(3,.p 3 0),(4,.p 4 0),(6,.p 6 0),(8,.p 8 0)],[(3,35,cR a),(4,35,cR b),(6,49,zR),(8,35,cR (rt c))]⟩) (aM ⟨rfl,rfl,rfl,rfl,trivial⟩ ⟨rfl,rfl,rfl,by rw[←wC hs];rfl,trivial⟩ rfl) ?_
   refine aa<|aR 6 rfl rfl<|ap 3<|aj (am rfl (dd (aX hb) (Sn)))<|aj (am rfl (kS (aX ha) (aX (Rz.mul hb (by assumption)))))<|aj (am rfl (dM))<|aY<|az<|ag<|an ?_
   exact aq (a7 dx rfl (aE ae))
  ·exact absurd hs (by rw[hc2];decide)
theorem qi {a b c:Rat}(_ha:Rz 20000 a) (_hb:Rz 20000 b) (hc:Rz 20000 c) (h0: ¬c<0) (hs:go c=false):Ok Tryz.prog 57 [dR a,dR b,dR c] [.a ((cR a++cR b++cR (zc b c))),.c (.i .i64 0)]:=by
 refine Ok.fn Tryz.func57 30 [.cell 6 49,.tmp 7] rfl<|aa<|ab<|al 3<|aC (ai de rfl) rfl<|ag<|aa<|aa<|ab<|al 1<|ah (am rfl (dh))<|ag ?_
 refine aw rfl (fun hc1=>?_) (fun hc1=>?_)
 ·exact absurd (Bx hc1) h0
 ·refine ao<|aa<|aa<|ab<|al 1<|ah (am rfl (xY (aX hc)))<|al 3<|aC (ai bJ rfl) rfl<|ag<|aa<|ab<|ag ?_
  refine aw rfl (fun hc2=>?_) (fun hc2=>?_)
  ·exact absurd hc2 (by rw[hs];decide)
  ·refine ao<|aa<|ab<|al 3<|ah (am rfl (lr))<|ag<|an ?_
   exact aq (a7 dx rfl (aE ae))
theorem Gp {x u y v q:Rat}(hx:Rz 50 x) (hu:Rz 50 u) (hy:Rz 50 y) (hv:Rz 50 v) (hq:Rz 100 q) (h0:0<q) (_hb: ¬(u=0∧v=0)) (hs:go q=true):Ok Tryz.prog 179 [dR x,dR u,dR y,dR v,dR q] [.a (au (fv x u y v q))]:=by
 have nq: ¬q<0:=by grind
 refine Ok.fn Tryz.func179 38 [.cell 10 46] rfl<|aa<|ab<|al 5<|aC (ai fO rfl) rfl<|ar<|aa<|ab<|al 3<|ah (am rfl (qd (hx.m_) (hu.m_) (hq.m_) nq hs))<|al 3<|aC (ai de rfl) rfl<|ag<|aa ?_
 refine ab<|al 3<|ah (am rfl (qd (hy.m_) (hv.m_) (hq.m_) nq hs))<|al 3<|aC (ai de rfl) rfl<|ag<|aa<|ab<|al 2<|ah (am rfl (zg (v':=0) (xX (Rz.zero (by decide)) (Rz.zero (by decide)) (fun e=>e.1 rfl)) rfl rfl rfl rfl (xB rfl rfl)))<|al 3<|aC (ai fO rfl) rfl<|ag<|aa ?_
 refine ab<|ag<|an ?_
 rw[show fv x u y v q=⟨x+u*rt q,0,y+v*rt q,0,0⟩ from by unfold fv;rw[hs];rfl]
 exact aq (a7 bo rfl ae)
theorem Hg {x u y v q:Rat}(hx:Rz 50 x) (hu:Rz 50 u) (hy:Rz 50 y) (hv:Rz 50 v) (hq:Rz 100 q) (h0:0<q) (hb: ¬(u=0∧v=0)) (hs:go q=false):Ok Tryz.prog 179 [dR x,dR u,dR y,dR v,dR q] [.a (au (fv x u y v q))]:=by
 have nq: ¬q<0:=by grind
 have hz: ∀w:Rat,Rz 300 (zc w q):=fun w=>Rz.zc (hq.m_) (by decide)
 refine Ok.fn Tryz.func179 38 [.cell 10 46] rfl<|aa<|ab<|al 5<|aC (ai fO rfl) rfl<|ar<|aa<|ab<|al 3<|ah (am rfl (qi (hx.m_) (hu.m_) (hq.m_) nq hs))<|al 3<|aC (ai de rfl) rfl<|ag<|aa ?_
 refine ab<|al 3<|ah (am rfl (qi (hy.m_) (hv.m_) (hq.m_) nq hs))<|al 3<|aC (ai de rfl) rfl<|ag<|aa<|ab<|al 2<|ah (am rfl (zg (v':=q) (xX (hz _) (hz _) (fun e=>e.2.2 (by rw[fS e.1,fS e.2.1]))) rfl rfl rfl rfl (Qa hb)))<|al 3<|aC (ai fO rfl) rfl<|ag<|aa ?_
 refine ab<|ag<|an ?_
 rw[show fv x u y v q=⟨x,u,y,v,q⟩ from by unfold fv;rw[hs];rfl]
 exact aq (a7 bo rfl ae)
theorem J2 {x u y v q:Rat}(hx:Rz 50 x) (hu:Rz 50 u) (hy:Rz 50 y) (hv:Rz 50 v) (hq:Rz 100 q) (h0:0<q) (hb: ¬(u=0∧v=0)):Ok Tryz.prog 179 [dR x,dR u,dR y,dR v,dR q] [.a (au (fv x u y v q))]:=by
 cases hs:go q with
 |true=>exact Gp hx hu hy hv hq h0 hb hs
 |false=>exact Hg hx hu hy hv hq h0 hb hs
theorem Pm {k:Ci}(hk:GK k) (h0:0<k.q):Ok Tryz.prog 99 [.a (ca k)] [.a (au (jt k)),.a (au (i9 k))]:=by
 have o1:Rz 60000 (1:Rat):=iy.m_
 refine Ok.fn Tryz.func99 27 [.cell 2 46,.cell 3 46] rfl<|aa<|ab<|al 1<|aC (ai fO rfl) rfl<|aC (ai fO rfl) rfl<|ar<|aa<|ab<|ah (am rfl (dt (iM (by decide) (by decide)) (show((1:Int):Rat)=1 from rfl)))<|ah (am rfl (dt (iM (by decide) (by decide)) (show((0:Int):Rat)=0 from rfl)))<|aC (ai bJ rfl) rfl<|aC (ai bJ rfl) rfl<|ag ?_
 refine aa<|aR 19 rfl rfl<|ap 1<|aj (aF (cR k.x) aD rfl)<|ap 1<|aj (am rfl (gc o1))<|ap 1<|aj (aF (cR k.y) aD rfl)<|ap 2<|aj (aF (cR k.q) aD rfl)<|aj (am rfl (J2 (hk.x.m_) (iy.neg.m_) (hk.y.m_) (Rz.zero (by decide)) (hk.q.m_) h0 (fun e=>absurd e.1 (by decide))))<|ap 1<|aj (aF (cR k.x) aD rfl)<|ap 2 ?_
 refine aj (aF (cR k.y) aD rfl)<|ap 2<|aj (aF (cR k.q) aD rfl)<|aj (am rfl (J2 (hk.x.m_) (iy.m_) (hk.y.m_) (Rz.zero (by decide)) (hk.q.m_) h0 (fun e=>absurd e.1 (by decide))))<|aY<|az<|ag<|an ?_
 exact aq (a7 bo rfl (a7 bo rfl ae))
theorem PB {l:Ln}(hl:GL l):Ok Tryz.prog 261 [.a (dV l)] [dR (i7 l)]:=by
 refine Ok.fn Tryz.func261 14 [.cell 2 35] rfl<|aa<|ab<|al 1<|aC (ai bJ rfl) rfl<|ar<|aa<|aR 11 rfl rfl<|ap 1<|aj (aF (cR l.a) aD rfl)<|ap 1<|aj (aF (cR l.a) aD rfl)<|aj (am rfl (dT (aX (hl.a)) (aX (hl.a))))<|ap 1 ?_
 refine aj (aF (cR l.b) aD rfl)<|ap 1<|aj (aF (cR l.b) aD rfl)<|aj (am rfl (dT (aX (hl.b)) (aX (hl.b))))<|aj (am rfl (nU (aX (Rz.mul (hl.a) (hl.a))) (aX (Rz.mul (hl.b) (hl.b)))))<|aY<|az<|ag<|an ?_
 exact aq (a7 aD rfl ae)
theorem Pz {l:Ln}{k:Ci}(hl:GL l) (hk:GK k):Ok Tryz.prog 263 [.a (dV l),dR k.x,dR k.y] [dR (pd l k.x k.y)]:=by
 refine Ok.fn Tryz.func263 19 [.cell 6 35] rfl<|aa<|ab<|al 3<|aC (ai bJ rfl) rfl<|ar<|aa<|aR 12 rfl rfl<|ap 1<|aj (aF (cR l.a) aD rfl)<|ap 1<|aj (am rfl (dT (aX (hl.a)) (aX (hk.x))))<|ap 1<|aj (aF (cR l.b) aD rfl) ?_
 refine ap 1<|aj (am rfl (dT (aX (hl.b)) (aX (hk.y))))<|aj (am rfl (nU (aX (Rz.mul (hl.a) (hk.x))) (aX (Rz.mul (hl.b) (hk.y)))))<|ap 1<|aj (aF (cR l.c) aD rfl)<|aj (am rfl (ij (aX (Rz.add (Rz.mul (hl.a) (hk.x)) (Rz.mul (hl.b) (hk.y)))) (aX (hl.c))))<|aY<|az<|ag<|an ?_
 exact aq (a7 aD rfl ae)
theorem Q9 {l:Ln}{k:Ci}(hl:GL l) (hk:GK k):Ok Tryz.prog 260 [.a (dV l),.a (ca k)] [dR (oE l k)]:=by
 have v1:Rz 60000 (pd l k.x k.y):=(oY hl hk).m_
 have n1:Rz 60000 (i7 l):=(oB hl).m_
 have n2:Rz 60000 k.q:=hk.q.m_
 have n3:Rz 60000 (i7 l*k.q):=((oB hl).mul hk.q).m_
 have n4:Rz 60000 (pd l k.x k.y*pd l k.x k.y):=((oY hl hk).mul (oY hl hk)).m_
 refine Ok.fn Tryz.func260 21 [.cell 4 35] rfl<|aa<|ab<|al 2<|aC (ai bJ rfl) rfl<|ar<|aa<|ab<|al 2<|ah (aF (cR k.x) aD rfl)<|al 1<|ah (aF (cR k.y) aD rfl)<|ah (am rfl (Pz hl hk))<|aC (ai bJ rfl) rfl ?_
 refine ag<|aa<|aR 9 rfl rfl<|ap 1<|aj (am rfl (PB hl))<|ap 1<|aj (aF (cR k.q) aD rfl) ?_
 refine aj (am rfl (dT (by first|assumption|exact Rz.mono (by assumption) (by decide)) (by first|assumption|exact Rz.mono (hk.q) (by decide)))) ?_
 refine ap 2 ?_
 refine aj (am rfl (dT (by first|assumption|exact Rz.mono (by assumption) (by decide)) (by first|assumption|exact Rz.mono (by assumption) (by decide)))) ?_
 refine aj (am rfl (ij (by first|assumption|exact Rz.mono (Rz.mul (by assumption) (hk.q)) (by decide)) (by first|assumption|exact Rz.mono (Rz.mul (by assumption) (by assumption)) (by decide)))) ?_
 refine aY<|az<|ag<|an ?_
 exact aq (a7 aD rfl ae)
theorem Uf {l m:Ln}(hl:GL l) (hm:GL m):Ok Tryz.prog 265 [.a (dV l),.a (dV m)] [dR (oO l m)]:=by
 refine Ok.fn Tryz.func265 16 [.cell 4 35] rfl<|aa<|ab<|al 2<|aC (ai bJ rfl) rfl<|ar<|aa<|aR 11 rfl rfl<|ap 1<|aj (aF (cR l.a) aD rfl)<|ap 1<|aj (aF (cR m.b) aD rfl)<|aj (am rfl (dT (aX (hl.a)) (aX (hm.b))))<|ap 1 ?_
 refine aj (aF (cR m.a) aD rfl)<|ap 1<|aj (aF (cR l.b) aD rfl)<|aj (am rfl (dT (aX (hm.a)) (aX (hl.b))))<|aj (am rfl (ij (aX (Rz.mul (hl.a) (hm.b))) (aX (Rz.mul (hm.a) (hl.b)))))<|aY<|az<|ag<|an ?_
 exact aq (a7 aD rfl ae)
theorem O9 {k d:Ci}(hk:GK k) (hd:GK d):Ok Tryz.prog 258 [.a (ca k),.a (ca d)] [.c (.b (tg k d))]:=by
 refine Ok.fn Tryz.func258 19 [.tmp 4] rfl<|aa<|ab<|ag<|aa<|ab<|al 1<|ah (aF (cR k.x) aD rfl)<|al 1<|ah (aF (cR d.x) aD rfl)<|ah (am rfl (gl (aX (hk.x)) (aX (hd.x))))<|al 1 ?_
 refine cg (bN rfl) (fun c1 hb1=>?_)
 cases c1
 ·refine ag<|an ?_
  rw[show tg k d=false from by unfold tg pf;rw[hb1];rfl]
  exact aq (aE ae)
 ·refine al 1<|ah (aF (cR k.y) aD rfl)<|al 1<|ah (aF (cR d.y) aD rfl)<|ah (am rfl (gl (aX (hk.y)) (aX (hd.y))))<|ag<|an ?_
  rw[show tg k d=(aV k.y d.y==0) from by unfold tg pf;rw[hb1];rfl]
  exact aq (aE ae)
theorem KJ {a1 b1 a2 b2 c:Rat}(ha1:Rz 200 a1) (hb1:Rz 200 b1) (ha2:Rz 200 a2) (hb2:Rz 200 b2) (hc:Rz 200 c) (hs:go c=true):Ok Tryz.prog 189 [dR a1,dR b1,dR a2,dR b2,dR c] [.a (au (fv a1 b1 a2 b2 c))]:=by
 have kt:Rz 60000 (rt c):=hc.rt.m_
 have k1:Rz 60000 (b1*rt c):=(hb1.mul hc.rt).m_
 have k2:Rz 60000 (b2*rt c):=(hb2.mul hc.rt).m_
 refine Ok.fn Tryz.func189 37 [.cell 10 46] rfl<|aa<|ab<|al 5<|aC (ai fO rfl) rfl<|ar<|aa<|aa<|ab<|al 1 ?_
 refine ah (am rfl (nJ (by first|assumption|exact Rz.mono hc (by decide)))) ?_
 refine al 3<|aC (ai bJ rfl) rfl<|ag<|aa<|ab<|ag ?_
 refine aw rfl (fun hc1=>?_) (fun hc1=>?_)
 ·refine Dw.weak (σ':=⟨37,[(5,.p 5 0),(6,.p 6 0),(7,.p 7 0),(8,.p 8 0),(9,.p 9 0),(10,.p 10 0),(11,.p 11 0)],[(5,35,cR a1),(6,35,cR b1),(7,35,cR a2),(8,35,cR b2),(9,35,cR c),(10,46,zP),(11,35,cR (rt c))]⟩) (aM ⟨rfl,rfl,rfl,rfl,rfl,rfl,rfl,trivial⟩ ⟨rfl,rfl,rfl,rfl,rfl,rfl,by rw[←wC hs];rfl,trivial⟩ rfl) ?_
  refine aa<|aR 12 rfl rfl<|ap 3 ?_
  refine aj (am rfl (dT (by first|assumption|exact Rz.mono hb1 (by decide)) (by first|assumption|exact Rz.mono (by assumption) (by decide)))) ?_
  refine aj (am rfl (nU (by first|assumption|exact Rz.mono ha1 (by decide)) (by first|assumption|exact Rz.mono (Rz.mul hb1 (by assumption)) (by decide)))) ?_
  refine ap 3 ?_
  refine aj (am rfl (dT (by first|assumption|exact Rz.mono hb2 (by decide)) (by first|assumption|exact Rz.mono (by assumption) (by decide)))) ?_
  refine aj (am rfl (nU (by first|assumption|exact Rz.mono ha2 (by decide)) (by first|assumption|exact Rz.mono (Rz.mul hb2 (by assumption)) (by decide)))) ?_
  refine aj (aN (us:=(cR (a1+(b1*(rt c)))++cR (a2+(b2*(rt c))))) nr il rfl rfl rfl) ?_
  refine aj (am rfl (ln))<|aY<|az<|ag<|an ?_
  rw[show fv a1 b1 a2 b2 c=⟨a1+b1*rt c,0,a2+b2*rt c,0,0⟩ from by unfold fv;rw[hs];rfl]
  exact aq (a7 bo rfl ae)
 ·exact absurd hc1 (by rw[hs];decide)
theorem I6 {a1 b1 a2 b2 c:Rat}(_ha1:Rz 200 a1) (_hb1:Rz 200 b1) (_ha2:Rz 200 a2) (_hb2:Rz 200 b2) (hc:Rz 200 c) (hs:go c=false):Ok Tryz.prog 189 [dR a1,dR b1,dR a2,dR b2,dR c] [.a (au (fv a1 b1 a2 b2 c))]:=by
 refine Ok.fn Tryz.func189 37 [.cell 10 46] rfl<|aa<|ab<|al 5<|aC (ai fO rfl) rfl<|ar<|aa<|aa<|ab<|al 1<|ah (am rfl (nJ (aX hc)))<|al 3<|aC (ai bJ rfl) rfl<|ag ?_
 refine aa<|ab<|ag ?_
 refine aw rfl (fun hc1=>?_) (fun hc1=>?_)
 ·exact absurd hc1 (by rw[hs];decide)
 ·refine ao<|aa<|ab<|al 5<|ah (aN (us:=(cR a1++cR b1++cR a2++cR b2++cR c)) zp fO rfl rfl rfl) ?_
  refine ag<|an ?_
  rw[show fv a1 b1 a2 b2 c=⟨a1,b1,a2,b2,c⟩ from by unfold fv;rw[hs];rfl]
  exact aq (a7 bo rfl ae)
theorem EW {a1 b1 a2 b2 c:Rat}(ha1:Rz 200 a1) (hb1:Rz 200 b1) (ha2:Rz 200 a2) (hb2:Rz 200 b2) (hc:Rz 200 c):Ok Tryz.prog 189 [dR a1,dR b1,dR a2,dR b2,dR c] [.a (au (fv a1 b1 a2 b2 c))]:=by
 cases hs:go c with
 |true=>exact KJ ha1 hb1 ha2 hb2 hc hs
 |false=>exact I6 ha1 hb1 ha2 hb2 hc hs
theorem Rf {l:Ln}{k:Ci}(hl:GL l) (hk:GK k):Ok Tryz.prog 200 [.a (dV l),.a (ca k)] [.c (.s ((iw l k).length) (aI au (iw l k)))]:=by
 have h0:=hl.n
 have z1:Rz 60000 (pd l k.x k.y):=(oY hl hk).m_
 have z2:Rz 60000 (i7 l):=(oB hl).m_
 have z3:Rz 60000 (pd l k.x k.y/i7 l):=(BQ hl hk).m_
 have z4:Rz 60000 (l.b/i7 l):=(Be hl).m_
 have z5:Rz 60000 (-l.a/i7 l):=(CG hl).m_
 have z6:Rz 60000 l.a:=hl.a.m_
 have z7:Rz 60000 l.b:=hl.b.m_
 have z8:Rz 60000 (-l.a):=z6.neg
 have z9:Rz 60000 (pd l k.x k.y/i7 l*l.a):=((BQ hl hk).mul hl.a).m_
 have zA:Rz 60000 (pd l k.x k.y/i7 l*l.b):=((BQ hl hk).mul hl.b).m_
 have zB:Rz 60000 k.x:=hk.x.m_
 have zC:Rz 60000 k.y:=hk.y.m_
 refine Ok.fn Tryz.func200 84 [.tmp 4] rfl<|aa<|ab<|ag<|aa<|aR 7 rfl rfl<|ap 2<|aj (am rfl (Q9 hl hk))<|ap 1<|aj (am rfl (PB hl))<|ba (ai bJ rfl) rfl<|ba (ai bJ rfl) rfl<|aY<|bG ?_
 refine ag<|aa<|aa<|ab<|al 1<|ah (am rfl (db))<|ag ?_
 refine aw rfl (fun hc1=>?_) (fun hc1=>?_)
 ·refine aa<|ab<|ag<|an ?_
  rw[KI hc1]
  exact aq (aE ae)
 ·have g1: ¬aV (oE l k) 0<0:=of_decide_eq_false hc1
  refine ao<|aa<|aR 9 rfl rfl<|ap 2<|aj (aF (cR k.x) aD rfl)<|ap 1<|aj (aF (cR k.y) aD rfl)<|aj (am rfl (Pz hl hk))<|ap 1 ?_
  refine aj (am rfl (pg (by first|assumption|exact Rz.mono (by assumption) (by decide)) (by first|assumption|exact Rz.mono (by assumption) (by decide)) (by assumption))) ?_
  refine ba (ai bJ rfl) rfl<|aY<|bl<|ag<|aa<|aR 16 rfl rfl<|ap 1<|aj (aF (cR k.x) aD rfl)<|ap 2<|aj (aF (cR l.a) aD rfl) ?_
  refine aj (am rfl (dT (by first|assumption|exact Rz.mono (Rz.div (by assumption) (by assumption) (by assumption)) (by decide)) (by first|assumption|exact Rz.mono (by assumption) (by decide)))) ?_
  refine aj (am rfl (ij (by first|assumption|exact Rz.mono (by assumption) (by decide)) (by first|assumption|exact Rz.mono (Rz.mul (Rz.div (by assumption) (by assumption) (by assumption)) (by assumption)) (by decide)))) ?_
  refine ap 1<|aj (aF (cR k.y) aD rfl)<|ap 2<|aj (aF (cR l.b) aD rfl) ?_
  refine aj (am rfl (dT (by first|assumption|exact Rz.mono (Rz.div (by assumption) (by assumption) (by assumption)) (by decide)) (by first|assumption|exact Rz.mono (by assumption) (by decide)))) ?_
  refine aj (am rfl (ij (by first|assumption|exact Rz.mono (by assumption) (by decide)) (by first|assumption|exact Rz.mono (Rz.mul (Rz.div (by assumption) (by assumption) (by assumption)) (by assumption)) (by decide)))) ?_
  refine ba (ai bJ rfl) rfl<|ba (ai bJ rfl) rfl<|aY<|bG<|ag<|aa<|aa<|ab<|al 1<|ah (am rfl (db))<|ag ?_
  refine aw rfl (fun hc2=>?_) (fun hc2=>?_)
  ·refine aa<|ab<|al 2<|ah (aN (us:=(cR (k.x-(((pd l k.x k.y)/(i7 l))*l.a))++cR (k.y-(((pd l k.x k.y)/(i7 l))*l.b)))) nr il rfl rfl rfl) ?_
   refine ah (am rfl (ln))<|ah (cC (n:=1) (us:=(cR (k.x-(((pd l k.x k.y)/(i7 l))*l.a))++cR 0++cR (k.y-(((pd l k.x k.y)/(i7 l))*l.b))++cR 0++cR 0)) ft rfl rfl rfl (by decide) (by decide) rfl) ?_
   refine ag<|an ?_
   rw[H9 hc1 hc2]
   exact aq (aE ae)
  ·have g2: ¬aV (oE l k) 0=0:=by simpa using hc2
   refine ao<|aa<|aR 11 rfl rfl<|ap 1<|aj (aF (cR l.b) aD rfl)<|ap 1 ?_
   refine aj (am rfl (pg (by first|assumption|exact Rz.mono (by assumption) (by decide)) (by first|assumption|exact Rz.mono (by assumption) (by decide)) (by assumption))) ?_
   refine ap 1<|aj (aF (cR l.a) aD rfl) ?_
   refine aj (am rfl (r7 (by first|assumption|exact Rz.mono (by assumption) (by decide)))) ?_
   refine ap 1 ?_
   refine aj (am rfl (pg (by first|assumption|exact Rz.mono (Rz.neg (by assumption)) (by decide)) (by first|assumption|exact Rz.mono (by assumption) (by decide)) (by assumption))) ?_
   refine ba (ai bJ rfl) rfl<|ba (ai bJ rfl) rfl<|aY<|bG<|ag<|aa<|aR 16 rfl rfl<|ap 2 ?_
   refine aj (am rfl (r7 (by first|assumption|exact Rz.mono (Rz.div (by assumption) (by assumption) (by assumption)) (by decide)))) ?_
   refine ap 2 ?_
   refine aj (am rfl (r7 (by first|assumption|exact Rz.mono (Rz.div (Rz.neg (by assumption)) (by assumption) (by assumption)) (by decide)))) ?_
   refine ap 1<|aj (am rfl (EW ((pW hl hk).m_) ((Be hl).neg.m_) ((pO hl hk).m_) ((CG hl).neg.m_) ((ui hl hk).m_)))<|ap 5<|aj (am rfl (EW ((pW hl hk).m_) ((Be hl).m_) ((pO hl hk).m_) ((CG hl).m_) ((ui hl hk).m_)))<|ba (ai fO rfl) rfl<|ba (ai fO rfl) rfl<|aY<|bG<|ag<|aa<|aa<|ab<|al 2<|ah (am rfl (kW (D4 hl hk g1 g2) (Ef hl hk g1 g2))) ?_
   refine ag ?_
   refine aw rfl (fun hc3=>?_) (fun hc3=>?_)
   ·--region 11
    refine ab<|ag<|aa<|ab<|al 2<|ah (cC (n:=2) (us:=au (L9 l k)++au (L7 l k)) ft rfl rfl rfl (by decide) (by decide) rfl) ?_
    refine ag<|an ?_
    rw[Ik hc1 hc2 hc3]
    exact aq (aE ae)
   ·refine ao<|aa<|ab<|al 2<|ah (cC (n:=2) (us:=au (L7 l k)++au (L9 l k)) ft rfl rfl rfl (by decide) (by decide) rfl) ?_
    refine ag<|an ?_
    rw[I2 hc1 hc2 hc3]
    exact aq (aE ae)
theorem Ud {l m:Ln}(hl:GL l) (hm:GL m):Ok Tryz.prog 201 [.a (dV l),.a (dV m)] [.c (.s ((jy l m).length) (aI au (jy l m))),.c (.i .i64 (ny l m))]:=by
 have z1:Rz 60000 (oO l m):=(yW hl hm).m_
 have z2:Rz 60000 (MA l m):=(Lf hl hm).m_
 have z3:Rz 60000 (MM l m):=(K7 hl hm).m_
 refine Ok.fn Tryz.func201 54 [.tmp 4,.tmp 5] rfl<|aa<|ab<|ag<|aa<|ab<|al 2<|ah (am rfl (Uf hl hm))<|aC (ai bJ rfl) rfl<|ag<|aa<|aR 24 rfl rfl<|ap 1<|aj (aF (cR l.c) aD rfl) ?_
 refine ap 1<|aj (aF (cR m.b) aD rfl)<|aj (am rfl (dT (aX (hl.c)) (aX (hm.b))))<|ap 1<|aj (aF (cR m.c) aD rfl)<|ap 1<|aj (aF (cR l.b) aD rfl)<|aj (am rfl (dT (aX (hm.c)) (aX (hl.b))))<|aj (am rfl (ij (aX (Rz.mul (hl.c) (hm.b))) (aX (Rz.mul (hm.c) (hl.b)))))<|ap 1<|aj (aF (cR l.a) aD rfl)<|ap 1<|aj (aF (cR m.c) aD rfl)<|aj (am rfl (dT (aX (hl.a)) (aX (hm.c)))) ?_
 refine ap 1<|aj (aF (cR m.a) aD rfl)<|ap 1<|aj (aF (cR l.c) aD rfl)<|aj (am rfl (dT (aX (hm.a)) (aX (hl.c))))<|aj (am rfl (ij (aX (Rz.mul (hl.a) (hm.c))) (aX (Rz.mul (hm.a) (hl.c)))))<|ba (ai bJ rfl) rfl<|ba (ai bJ rfl) rfl<|aY<|bG<|ag<|aa<|aa<|ab ?_
 refine al 1<|ah (am rfl (db))<|ag ?_
 refine aw rfl (fun hc1=>?_) (fun hc1=>?_)
 ·have h0:oO l m≠0:=fun e=>absurd hc1 (by rw[fu.2 e];decide)
  refine aa<|aR 11 rfl rfl<|ap 2<|aj (am rfl (pg z2 z1 h0))<|ap 2<|aj (am rfl (pg z3 z1 h0))<|aj (aN (us:=(cR (MA l m/oO l m)++cR (MM l m/oO l m))) nr il rfl rfl rfl) ?_
  refine aj (am rfl (ln))<|aj (cC (n:=1) (us:=(cR (MA l m/oO l m)++cR 0++cR (MM l m/oO l m)++cR 0++cR 0)) ft rfl rfl rfl (by decide) (by decide) rfl) ?_
  refine bk<|az<|ar<|an ?_
  rw[(AP hc1).1,(AP hc1).2]
  exact aq (aE (aE ae))
 ·refine ao<|aa<|aa<|ab<|al 1<|ah (am rfl (db))<|al 1 ?_
  refine cg (bN rfl) (fun c2 hb2=>?_)
  cases c2
  ·refine ag<|aP rfl<|ao<|aa<|ab<|ag<|an ?_
   rw[(xD hc1 hb2).1,(xD hc1 hb2).2]
   exact aq (aE (aE ae))
  ·refine al 1<|ah (am rfl (db))<|ag ?_
   refine aw rfl (fun hc3=>?_) (fun hc3=>?_)
   ·refine aa<|ab<|ag<|an ?_
    rw[(yw hc1 hb2 hc3).1,(yw hc1 hb2 hc3).2]
    exact aq (aE (aE ae))
   ·refine ao<|aa<|ab<|ag<|an ?_
    rw[(yE hc1 hc3).1,(yE hc1 hc3).2]
    exact aq (aE (aE ae))
theorem Td {k d:Ci}(hk:GK k) (hd:GK d) (hn:tg k d=false):Ok Tryz.prog 259 [.a (ca k),.a (ca d)] [.a (dV (NF k d)),.c (.i .i64 0)]:=by
 have zt:Rz 60000 (2:Rat):=Ej.m_
 have f1:Rz 60000 (Ij k):=(uk hk).m_
 have f2:Rz 60000 (Ij d):=(uk hd).m_
 refine Ok.fn Tryz.func259 60 [.cell 4 42,.tmp 5] rfl<|aa<|ab<|al 2<|aC (ai tX rfl) rfl<|ag<|aa<|aa<|ab<|al 2<|ah (am rfl (gQ (O9 hk hd) hn))<|ar<|aP rfl<|ao ?_
 refine aa<|ab<|ah (am rfl (dt (gM (by decide) (by decide)) (show((2:Int):Rat)=2 from rfl)))<|aC (ai bJ rfl) rfl<|ag<|aa<|aR 15 rfl rfl<|ap 1<|aj (aF (cR k.x) aD rfl)<|ap 1<|aj (aF (cR k.x) aD rfl)<|aj (am rfl (dT (aX (hk.x)) (aX (hk.x))))<|ap 1<|aj (aF (cR k.y) aD rfl) ?_
 refine ap 1<|aj (aF (cR k.y) aD rfl)<|aj (am rfl (dT (aX (hk.y)) (aX (hk.y))))<|aj (am rfl (nU (aX (Rz.mul (hk.x) (hk.x))) (aX (Rz.mul (hk.y) (hk.y)))))<|ap 1<|aj (aF (cR k.q) aD rfl)<|aj (am rfl (ij (aX (Rz.add (Rz.mul (hk.x) (hk.x)) (Rz.mul (hk.y) (hk.y)))) (aX (hk.q))))<|ba (ai bJ rfl) rfl<|aY<|bl<|ag<|aa<|aR 15 rfl rfl<|ap 1 ?_
 refine aj (aF (cR d.x) aD rfl)<|ap 1<|aj (aF (cR d.x) aD rfl)<|aj (am rfl (dT (aX (hd.x)) (aX (hd.x))))<|ap 1<|aj (aF (cR d.y) aD rfl)<|ap 1<|aj (aF (cR d.y) aD rfl)<|aj (am rfl (dT (aX (hd.y)) (aX (hd.y))))<|aj (am rfl (nU (aX (Rz.mul (hd.x) (hd.x))) (aX (Rz.mul (hd.y) (hd.y)))))<|ap 1<|aj (aF (cR d.q) aD rfl)<|aj (am rfl (ij (aX (Rz.add (Rz.mul (hd.x) (hd.x)) (Rz.mul (hd.y) (hd.y)))) (aX (hd.q))))<|ba (ai bJ rfl) rfl ?_
 refine aY<|bl<|ag<|aa<|aR 18 rfl rfl<|ap 2<|aj (aF (cR d.x) aD rfl)<|ap 1<|aj (aF (cR k.x) aD rfl)<|aj (am rfl (ij (aX (hd.x)) (aX (hk.x))))<|aj (am rfl (dT (Sn) (aX (Rz.sub (hd.x) (hk.x)))))<|ap 2<|aj (aF (cR d.y) aD rfl)<|ap 1 ?_
 refine aj (aF (cR k.y) aD rfl)<|aj (am rfl (ij (aX (hd.y)) (aX (hk.y))))<|aj (am rfl (dT (Sn) (aX (Rz.sub (hd.y) (hk.y)))))<|ap 2<|aj (am rfl (ij (aX (Rz.sub (Rz.add (Rz.mul (hd.x) (hd.x)) (Rz.mul (hd.y) (hd.y))) (hd.q))) (aX (Rz.sub (Rz.add (Rz.mul (hk.x) (hk.x)) (Rz.mul (hk.y) (hk.y))) (hk.q)))))<|aj (aN (us:=(cR (2*(d.x-k.x))++cR (2*(d.y-k.y))++cR ((((d.x*d.x)+(d.y*d.y))-d.q)-(((k.x*k.x)+(k.y*k.y))-k.q)))) Mx tX rfl rfl rfl) ?_
 refine aY<|az<|ag<|an ?_
 exact aq (a7 sZ rfl (aE ae))
theorem TD {k d:Ci}(hk:GK k) (hd:GK d):Ok Tryz.prog 199 [.a (ca k),.a (ca d)] [.c (.s ((oa k d).length) (aI au (oa k d))),.c (.i .i64 (tM k d))]:=by
 refine Ok.fn Tryz.func199 26 [.tmp 4,.tmp 5] rfl<|aa<|ab<|ag<|aa<|aa<|ab<|al 2<|ah (am rfl (O9 hk hd))<|ar ?_
 refine aw rfl (fun hc1=>?_) (fun hc1=>?_)
 ·refine aa<|aa<|ab<|al 1<|ah (aF (cR k.q) aD rfl)<|al 1<|ah (aF (cR d.q) aD rfl)<|ah (am rfl (gl (aX (hk.q)) (aX (hd.q))))<|ag ?_
  refine aw rfl (fun hc2=>?_) (fun hc2=>?_)
  ·refine aa<|ab<|ag<|an ?_
   rw[(IK hc1 hc2).1,(IK hc1 hc2).2]
   exact aq (aE (aE ae))
  ·refine ao<|aa<|ab<|ag<|an ?_
   rw[(LB hc1 hc2).1,(LB hc1 hc2).2]
   exact aq (aE (aE ae))
 ·refine ao<|aa<|ab<|al 2<|ah (am rfl (Td hk hd hc1))<|al 3<|aC (ai tX rfl) rfl<|ag<|aa<|ab<|al 2<|ah (am rfl (Rf (FJ hk hd hc1) hk))<|ag<|an ?_
  rw[(IY hc1).1,(IY hc1).2]
  exact aq (aE (aE ae))
theorem Su {k d:Ci}(hk:GK k) (hd:GK d):Ok Tryz.prog 171 [.a (ca k),.a (ca d)] [.c (.b (vv k d))]:=by
 refine Ok.fn Tryz.func171 27 [.tmp 4] rfl<|aa<|ab<|ag<|aa<|ab<|al 1<|ah (aF (cR k.x) aD rfl)<|al 1<|ah (aF (cR d.x) aD rfl)<|ah (am rfl (gl (aX (hk.x)) (aX (hd.x))))<|al 1 ?_
 refine cg (bN rfl) (fun c1 hb1=>?_)
 cases c1
 ·refine ag<|an ?_
  rw[show vv k d=false from by unfold vv pf;rw[hb1];rfl]
  exact aq (aE ae)
 ·refine al 1<|ah (aF (cR k.y) aD rfl)<|al 1<|ah (aF (cR d.y) aD rfl)<|ah (am rfl (gl (aX (hk.y)) (aX (hd.y))))<|al 2 ?_
  refine cg (bN rfl) (fun c2 hb2=>?_)
  cases c2
  ·refine ag<|an ?_
   rw[show vv k d=false from by unfold vv pf;rw[hb1,hb2];rfl]
   exact aq (aE ae)
  ·refine al 1<|ah (aF (cR k.q) aD rfl)<|al 1<|ah (aF (cR d.q) aD rfl)<|ah (am rfl (gl (aX (hk.q)) (aX (hd.q))))<|ag<|an ?_
   rw[show vv k d=(aV k.q d.q==0) from by unfold vv pf;rw[hb1,hb2];rfl]
   exact aq (aE ae)
theorem SN {l m:Ln}(hl:GL l) (hm:GL m):Ok Tryz.prog 172 [.a (dV l),.a (dV m)] [.c (.b (wI l m))]:=by
 refine Ok.fn Tryz.func172 45 [.tmp 4] rfl<|aa<|ab<|ag<|aa<|aR 41 rfl rfl<|ap 1<|aj (aF (cR l.a) aD rfl)<|ap 1<|aj (aF (cR m.b) aD rfl)<|aj (am rfl (cZ (aX (hl.a)) (aX (hm.b))))<|ap 1<|aj (aF (cR l.b) aD rfl)<|ap 1 ?_
 refine aj (aF (cR m.a) aD rfl)<|aj (am rfl (cZ (aX (hl.b)) (aX (hm.a))))<|aj (am rfl (gl (aX (Rz.mul (hl.a) (hm.b))) (aX (Rz.mul (hl.b) (hm.a)))))<|ap 1 ?_
 refine fb (bN rfl) (fun c1 hb1=>?_)
 cases c1
 ·refine bk<|az<|ar<|an ?_
  rw[show wI l m=false from by unfold wI pf;rw[hb1];rfl]
  exact aq (aE ae)
 ·refine ap 1<|aj (aF (cR l.a) aD rfl)<|ap 1<|aj (aF (cR m.c) aD rfl)<|aj (am rfl (cZ (aX (hl.a)) (aX (hm.c))))<|ap 1<|aj (aF (cR l.c) aD rfl)<|ap 1<|aj (aF (cR m.a) aD rfl)<|aj (am rfl (cZ (aX (hl.c)) (aX (hm.a))))<|aj (am rfl (gl (aX (Rz.mul (hl.a) (hm.c))) (aX (Rz.mul (hl.c) (hm.a)))))<|ap 2 ?_
  refine fb (bN rfl) (fun c2 hb2=>?_)
  cases c2
  ·refine bk<|az<|ar<|an ?_
   rw[show wI l m=false from by unfold wI pf;rw[hb1,hb2];rfl]
   exact aq (aE ae)
  ·refine ap 1<|aj (aF (cR l.b) aD rfl)<|ap 1<|aj (aF (cR m.c) aD rfl)<|aj (am rfl (cZ (aX (hl.b)) (aX (hm.c))))<|ap 1<|aj (aF (cR l.c) aD rfl)<|ap 1<|aj (aF (cR m.b) aD rfl)<|aj (am rfl (cZ (aX (hl.c)) (aX (hm.b))))<|aj (am rfl (gl (aX (Rz.mul (hl.b) (hm.c))) (aX (Rz.mul (hl.c) (hm.b)))))<|bk<|az<|ar ?_
   refine an ?_
   rw[show wI l m=(aV (l.b*m.c) (l.c*m.b)==0) from by unfold wI pf;rw[hb1,hb2];rfl]
   exact aq (aE ae)
theorem KF {l:Ln}(hl:GL l) {f t:Pt}(_hf:GP f) (_ht:GP t) {m:Ln}(hm:GL m) {u v:Pt}(_hu:GP u) (_hv:GP v):Ok Tryz.prog 94 [.a (([.b false]++dV l++cS++[.b false]++au f++au t)),.a (([.b false]++dV m++cS++[.b false]++au u++au v))] [.c (.b (fV (Cv.seg l f t) (Cv.seg m u v)))]:=by
 refine Ok.fn Tryz.func94 22 [.tmp 4] rfl<|aa<|ab<|ag<|aa<|aa<|ab<|al 4<|ah (ff rfl rfl fp rfl) ?_
 refine ar<|aP rfl<|ao<|aa<|aa<|ab<|ag<|aP rfl<|ao<|aa<|ab<|al 1<|ah (cD (dV l) sZ rfl (by kernel_rfl))<|al 1 ?_
 refine ah (cD (dV m) sZ rfl (by kernel_rfl))<|ah (am rfl (SN hl hm))<|ag<|an ?_
 exact aq (aE ae)
theorem Nh {l:Ln}(hl:GL l) {f t:Pt}(_hf:GP f) (_ht:GP t) {m:Ln}(hm:GL m) {u v:Pt}(_hu:GP u) (_hv:GP v):Ok Tryz.prog 117 [.a (([.b false]++dV l++cS++[.b false]++au f++au t)),.a (([.b false]++dV m++cS++[.b false]++au u++au v))] [.c (.s ((ms (Cv.seg l f t) (Cv.seg m u v)).length) (aI au (ms (Cv.seg l f t) (Cv.seg m u v)))),.c (.i .i64 (Bg (Cv.seg l f t) (Cv.seg m u v)))]:=by
 refine Ok.fn Tryz.func117 40 [.tmp 4,.tmp 5] rfl<|aa<|ab<|ag<|aa<|aa<|ab<|ag<|aP rfl<|ao<|aa<|aa<|ab<|ag ?_
 refine aP rfl<|ao<|aa<|aa<|ab<|ag<|aP rfl<|ao<|aa<|ab<|al 1<|ah (cD (dV l) sZ rfl (by kernel_rfl))<|al 1<|ah (cD (dV m) sZ rfl (by kernel_rfl)) ?_
 refine ah (am rfl (Ud hl hm))<|ag<|an ?_
 exact aq (aE (aE ae))
theorem Jt {l:Ln}(_hl:GL l) {f t:Pt}(_hf:GP f) (_ht:GP t) {d:Ci}(_hd:GK d) {w2:Bool}{u v:Pt}(_hu:GP u) (_hv:GP v):Ok Tryz.prog 94 [.a (([.b false]++dV l++cS++[.b false]++au f++au t)),.a (([.b true]++cS++ca d++[.b w2]++au u++au v))] [.c (.b (fV (Cv.seg l f t) (Cv.arc d w2 u v)))]:=by
 refine Ok.fn Tryz.func94 22 [.tmp 4] rfl<|aa<|ab<|ag<|aa<|aa<|ab<|al 4<|ah (ff rfl rfl fp rfl) ?_
 refine ar<|bg rfl<|aa<|ab<|ag<|an ?_
 exact aq (aE ae)
theorem Nv {l:Ln}(hl:GL l) {f t:Pt}(_hf:GP f) (_ht:GP t) {d:Ci}(hd:GK d) {w2:Bool}{u v:Pt}(_hu:GP u) (_hv:GP v):Ok Tryz.prog 117 [.a (([.b false]++dV l++cS++[.b false]++au f++au t)),.a (([.b true]++cS++ca d++[.b w2]++au u++au v))] [.c (.s ((ms (Cv.seg l f t) (Cv.arc d w2 u v)).length) (aI au (ms (Cv.seg l f t) (Cv.arc d w2 u v)))),.c (.i .i64 (Bg (Cv.seg l f t) (Cv.arc d w2 u v)))]:=by
 refine Ok.fn Tryz.func117 40 [.tmp 4,.tmp 5] rfl<|aa<|ab<|ag<|aa<|aa<|ab<|ag<|aP rfl<|ao<|aa<|aa<|ab<|ag ?_
 refine aP rfl<|ao<|aa<|aa<|ab<|ag<|bg rfl<|aa<|ab<|al 1<|ah (cD (dV l) sZ rfl (by kernel_rfl))<|al 1<|ah (cD (ca d) mJ rfl (by kernel_rfl))<|ah (am rfl (Rf hl hd)) ?_
 refine ag<|an ?_
 exact aq (aE (aE ae))
theorem IP {k:Ci}(_hk:GK k) {w:Bool}{f t:Pt}(_hf:GP f) (_ht:GP t) {m:Ln}(_hm:GL m) {u v:Pt}(_hu:GP u) (_hv:GP v):Ok Tryz.prog 94 [.a (([.b true]++cS++ca k++[.b w]++au f++au t)),.a (([.b false]++dV m++cS++[.b false]++au u++au v))] [.c (.b (fV (Cv.arc k w f t) (Cv.seg m u v)))]:=by
 refine Ok.fn Tryz.func94 22 [.tmp 4] rfl<|aa<|ab<|ag<|aa<|aa<|ab<|al 4<|ah (ff rfl rfl fp rfl) ?_
 refine ar<|bg rfl<|aa<|ab<|ag<|an ?_
 exact aq (aE ae)
theorem No {k:Ci}(hk:GK k) {w:Bool}{f t:Pt}(_hf:GP f) (_ht:GP t) {m:Ln}(hm:GL m) {u v:Pt}(_hu:GP u) (_hv:GP v):Ok Tryz.prog 117 [.a (([.b true]++cS++ca k++[.b w]++au f++au t)),.a (([.b false]++dV m++cS++[.b false]++au u++au v))] [.c (.s ((ms (Cv.arc k w f t) (Cv.seg m u v)).length) (aI au (ms (Cv.arc k w f t) (Cv.seg m u v)))),.c (.i .i64 (Bg (Cv.arc k w f t) (Cv.seg m u v)))]:=by
 refine Ok.fn Tryz.func117 40 [.tmp 4,.tmp 5] rfl<|aa<|ab<|ag<|aa<|aa<|ab<|ag<|aP rfl<|ao<|aa<|aa<|ab<|ag ?_
 refine bg rfl<|aa<|ab<|al 1<|ah (cD (dV m) sZ rfl (by kernel_rfl))<|al 1<|ah (cD (ca k) mJ rfl (by kernel_rfl))<|ah (am rfl (Rf hm hk))<|ag<|an ?_
 exact aq (aE (aE ae))
theorem HK {k:Ci}(hk:GK k) {w:Bool}{f t:Pt}(_hf:GP f) (_ht:GP t) {d:Ci}(hd:GK d) {w2:Bool}{u v:Pt}(_hu:GP u) (_hv:GP v):Ok Tryz.prog 94 [.a (([.b true]++cS++ca k++[.b w]++au f++au t)),.a (([.b true]++cS++ca d++[.b w2]++au u++au v))] [.c (.b (fV (Cv.arc k w f t) (Cv.arc d w2 u v)))]:=by
 refine Ok.fn Tryz.func94 22 [.tmp 4] rfl<|aa<|ab<|ag<|aa<|aa<|ab<|al 4<|ah (ff rfl rfl fp rfl) ?_
 refine ar<|aP rfl<|ao<|aa<|aa<|ab<|ag<|bg rfl<|aa<|ab<|al 1<|ah (cD (ca k) mJ rfl (by kernel_rfl))<|al 1<|ah (cD (ca d) mJ rfl (by kernel_rfl)) ?_
 refine ah (am rfl (Su hk hd))<|ag<|an ?_
 exact aq (aE ae)
theorem NJ {k:Ci}(hk:GK k) {w:Bool}{f t:Pt}(_hf:GP f) (_ht:GP t) {d:Ci}(hd:GK d) {w2:Bool}{u v:Pt}(_hu:GP u) (_hv:GP v):Ok Tryz.prog 117 [.a (([.b true]++cS++ca k++[.b w]++au f++au t)),.a (([.b true]++cS++ca d++[.b w2]++au u++au v))] [.c (.s ((ms (Cv.arc k w f t) (Cv.arc d w2 u v)).length) (aI au (ms (Cv.arc k w f t) (Cv.arc d w2 u v)))),.c (.i .i64 (Bg (Cv.arc k w f t) (Cv.arc d w2 u v)))]:=by
 refine Ok.fn Tryz.func117 40 [.tmp 4,.tmp 5] rfl<|aa<|ab<|ag<|aa<|aa<|ab<|ag<|bg rfl<|aa<|ab<|al 1<|ah (cD (ca k) mJ rfl (by kernel_rfl))<|al 1 ?_
 refine ah (cD (ca d) mJ rfl (by kernel_rfl))<|ah (am rfl (TD hk hd))<|ag<|an ?_
 exact aq (aE (aE ae))
theorem Je {c:Cv}(hc:c.good) {p q:Pt}(hp:GP p) (hq:GP q):Ok Tryz.prog 74 [.a (aB c),.a (au p),.a (au q)] [.c (.i .i64 (c.ord p q))]:=by
 cases c with
 |seg l f t=>exact D8 hc.1 hc.2.1 hc.2.2 hp hq
 |arc k w f t=>exact C9 hc.1 hc.2.1 hc.2.2 hp hq
theorem wv {c:Cv}(hc:c.good) {p:Pt}(hp:GP p):Ok Tryz.prog 20 [.a (aB c),.a (au p)] [.c (.b (c.on p))]:=by
 cases c with
 |seg l f t=>exact SD hc.1 hc.2.1 hc.2.2 hp
 |arc k w f t=>exact O4 hc.1 hc.2.1 hc.2.2 hp
theorem F6 {c:Cv}(hc:c.good) {L:List Pt}(hL: ∀p∈L,GP p) (lL:L.length≤100):Ok Tryz.prog 118 [.a (aB c),.c (.s ((L).length) (aI au (L)))] [.c (.s ((cr c L).length) (aI au (cr c L)))]:=by
 refine Ok.fn Tryz.func118 64 [.tmp 4] rfl<|aa<|ab<|ag<|aa<|ab<|ag<|aa<|aa<|ab<|ag<|aJ<|bD (ι:={n:Nat // n≤L.length}) (fun i=>⟨64,[(1,.v (.c (.s ((L).length) (aI au (L))))),(2,.p 2 0),(5,.v (.c (.s ((cr c (L.take i.1)).length) (aI au (cr c (L.take i.1)))))),(6,.v (.c (.i .i64 (i.1:Int))))],[(2,48,aB c)]⟩) (fun i=>L.length-i.1) ⟨0,Nat.zero_le _⟩ (aM ⟨rfl,rfl,rfl,rfl,trivial⟩ ⟨rfl,trivial⟩ rfl) ?_
 rintro⟨n,h2⟩
 replace h2:n≤L.length:=h2
 show Dw _ _ ⟨64,[(1,.v (.c (.s ((L).length) (aI au (L))))),(2,.p 2 0),(5,.v (.c (.s ((cr c (L.take n)).length) (aI au (cr c (L.take n)))))),(6,.v (.c (.i .i64 (n:Int))))],[(2,48,aB c)]⟩ _
 refine aa<|aa<|ab<|ag ?_
 refine aw rfl (fun hc1=>?_) (fun hc1=>?_)
 ·have g1:n<L.length:=by have:=of_decide_eq_true hc1;omega
  obtain⟨O,eO⟩: ∃O,cr c (L.take n)=O:=⟨_,rfl⟩
  have hO: ∀p∈O,GP p:=fun p hp=>hL p (List.mem_of_mem_take (j7 (by rw[eO];exact hp)))
  have lO:O.length≤100:=by
   have:=nC (c:=c) (l:=L.take n)
   rw[eO,List.length_take] at this;omega
  refine Dw.weak (σ':=⟨64,[(1,.v (.c (.s ((L).length) (aI au (L))))),(2,.p 2 0),(5,.v (.c (.s ((O).length) (aI au (O))))),(6,.v (.c (.i .i64 (n:Int))))],[(2,48,aB c)]⟩) (aM ⟨rfl,rfl,by rw[←eO];rfl,rfl,trivial⟩ ⟨rfl,trivial⟩ rfl) ?_
  refine ao<|aa<|aJ<|aa<|ab<|ag<|aa<|aJ<|bD (ι:={j:Nat // j≤O.length∧ ∀r,r<j→(c).ord (O.getD r dPt) (L.getD n dPt)<0}) (fun i=>⟨64,[(1,.v (.c (.s ((L).length) (aI au (L))))),(2,.p 2 0),(5,.v (.c (.s ((O).length) (aI au (O))))),(6,.v (.c (.i .i64 (n:Int)))),(7,.v (.c (.i .i64 (i.1:Int))))],[(2,48,aB c)]⟩) (fun i=>O.length-i.1) ⟨0,Nat.zero_le _,fun r h=>absurd h (Nat.not_lt_zero r)⟩ (aM ⟨rfl,rfl,rfl,rfl,rfl,trivial⟩ ⟨rfl,trivial⟩ rfl) ?_
  rintro⟨j,h3,h4⟩
  replace h3:j≤O.length:=h3
  replace h4: ∀r,r<j→(c).ord (O.getD r dPt) (L.getD n dPt)<0:=h4
  show Dw _ _ ⟨64,[(1,.v (.c (.s ((L).length) (aI au (L))))),(2,.p 2 0),(5,.v (.c (.s ((O).length) (aI au (O))))),(6,.v (.c (.i .i64 (n:Int)))),(7,.v (.c (.i .i64 (j:Int))))],[(2,48,aB c)]⟩ _
  refine aa<|aa<|aR 17 rfl rfl<|ap 4 ?_
  refine fb (bN rfl) (fun c2 hb2=>?_)
  cases c2
  ·have g2:O.length≤j:=by have:=of_decide_eq_false hb2;omega
   have hs:jd c (L.getD n dPt) O=j:=Ao h3 h4 (.inl (by omega))
   have g4: ¬(j<O.length∧cP (O.getD j dPt) (L.getD n dPt)=0):=fun h=>by omega
   refine bk<|az<|ar<|aP rfl<|bj<|aa<|aa<|aR 15 rfl rfl<|ap 3<|aj (bQ (c:=false) (iP rfl) (decide_eq_false (by omega))) ?_
   refine bk<|az<|ar<|aP rfl<|ao ?_
   rcases Nat.eq_zero_or_pos j with hj0|hj0
   ·refine yO 15 [10,14] aU (by kernel_rfl) rfl rfl<|fw rfl (jx ft rfl) rfl ?_
    refine fw rfl (bN rfl) rfl<|fw rfl (bN rfl) rfl<|fw rfl (oX (n':=0) (us':=[]) (jF (j:=(j:Int)) (n:=(O).length) (xs:=aI au (O)) (us:=aI au (O.take j)) ek rfl rfl (by omega) (aG aO _) (lK aO _ _) rfl) (by omega) (by rw[hj0];rfl)) rfl ?_
    refine fw rfl (nB ft rfl rfl rfl) rfl ?_
    refine fw rfl (bN rfl) rfl<|fw rfl (bN rfl) rfl<|fw rfl (aW (us:=au (L.getD n dPt)++aI au (L.drop (n+1))) ek rfl rfl (by omega) (aG aO _) (bz aO (bi g1)) rfl) rfl ?_
    refine fw rfl (bb (us:=au (L.getD n dPt)) bo rfl rfl rfl rfl) rfl ?_
    refine fw rfl (cC (n:=1) (us:=au (L.getD n dPt)) ft rfl rfl rfl (by decide) (by decide) rfl) rfl ?_
    refine xv rfl<|fw rfl (bN rfl) rfl<|fw rfl (bN rfl) rfl<|fw rfl (mP (j:=(j:Int)) (n:=(O).length) (xs:=aI au (O)) (n':=O.length-j) (us:=aI au (O.drop j)) ek rfl rfl (by omega) (aG aO _) (by omega) (lJ aO _ _) rfl) rfl ?_
    refine xv rfl ?_
    refine B5 (x0:=.tmp 52) (t1:=58) (y1:=.tmp 57) (t2:=62) (y2:=.tmp 61) (N':=O.length+1) (zs':=aI au (O.take j++(L.getD n dPt)::O.drop j)) ft (by decide) rfl rfl rfl rfl rfl rfl (rfl) (by rw[aG aO,List.length_drop]) (by kernel_rfl) (by kernel_rfl) (by decide) rfl rfl rfl rfl (by omega) (by rw[sb,hj0];rfl) (by omega) (gP (by omega)) (fun cg3 rg3 hga3 hgb3 hgc3=>?_)
    refine ag<|cV (t:=5) (m:=20) (us:=aI au (O.take j++(L.getD n dPt)::O.drop j)) rfl rfl (iY (n:=O.length+1) (by rw[aG aO,ju (by omega)]) (by assumption) (by omega)) (by omega) (by assumption) (fX (by rw[aG aO,ju (by omega)]))<|ab<|al 1<|ah (aK (r:=((n+1:Nat):Int)) rfl rfl ((aQ (by omega) (by omega)).trans (congrArg some (by omega))) rfl) ?_
    refine ag ?_
    exact⟨⟨n+1,g1⟩,aM ⟨rfl,rfl,by rw[nF g1,eO,sA hs g4,ju h3];rfl,rfl,trivial⟩ ⟨rfl,trivial⟩ rfl,by show L.length-(n+1)<L.length-n;omega⟩
   ·refine yO 15 [4,10,14] aU (by kernel_rfl) rfl rfl<|fw rfl (jx ft rfl) rfl ?_
    refine fw rfl (bN rfl) rfl<|fw rfl (bN rfl) rfl<|fw rfl ((jF (j:=(j:Int)) (n:=(O).length) (xs:=aI au (O)) (us:=aI au (O.take j)) ek rfl rfl (by omega) (aG aO _) (lK aO _ _) rfl)) rfl ?_
    refine xv rfl<|fw rfl (bN rfl) rfl<|fw rfl (bN rfl) rfl<|fw rfl (aW (us:=au (L.getD n dPt)++aI au (L.drop (n+1))) ek rfl rfl (by omega) (aG aO _) (bz aO (bi g1)) rfl) rfl ?_
    refine fw rfl (bb (us:=au (L.getD n dPt)) bo rfl rfl rfl rfl) rfl ?_
    refine fw rfl (cC (n:=1) (us:=au (L.getD n dPt)) ft rfl rfl rfl (by decide) (by decide) rfl) rfl ?_
    refine xv rfl<|fw rfl (bN rfl) rfl<|fw rfl (bN rfl) rfl<|fw rfl (mP (j:=(j:Int)) (n:=(O).length) (xs:=aI au (O)) (n':=O.length-j) (us:=aI au (O.drop j)) ek rfl rfl (by omega) (aG aO _) (by omega) (lJ aO _ _) rfl) rfl ?_
    refine xv rfl ?_
    refine Cl (x0:=.tmp 48) (t1:=52) (y1:=.tmp 51) (t2:=58) (y2:=.tmp 57) (t3:=62) (y3:=.tmp 61) (N':=O.length+1) (zs':=aI au (O.take j++(L.getD n dPt)::O.drop j)) ft (by decide) rfl rfl rfl rfl rfl rfl rfl rfl (by rw[aG aO,List.length_take,Nat.min_eq_left h3];rfl) (rfl) (by rw[aG aO,List.length_drop]) (by kernel_rfl) (by kernel_rfl) (hj0) rfl rfl rfl rfl rfl rfl (by omega) (sb.symm) (by omega) (gP (by omega)) (fun cg4 rg4 hga4 hgb4 hgc4=>?_)
    refine ag<|cV (t:=5) (m:=20) (us:=aI au (O.take j++(L.getD n dPt)::O.drop j)) rfl rfl (iY (n:=O.length+1) (by rw[aG aO,ju (by omega)]) (by assumption) (by omega)) (by omega) (by assumption) (fX (by rw[aG aO,ju (by omega)]))<|ab<|al 1<|ah (aK (r:=((n+1:Nat):Int)) rfl rfl ((aQ (by omega) (by omega)).trans (congrArg some (by omega))) rfl) ?_
    refine ag ?_
    exact⟨⟨n+1,g1⟩,aM ⟨rfl,rfl,by rw[nF g1,eO,sA hs g4,ju h3];rfl,rfl,trivial⟩ ⟨rfl,trivial⟩ rfl,by show L.length-(n+1)<L.length-n;omega⟩
  ·have g2:j<O.length:=by have:=of_decide_eq_true hb2;omega
   refine aj (aA (us:=aB c) bd rfl rfl (bv _) (ak _) rfl) ?_
   refine ap 2<|aj (aW (us:=au (O.getD j dPt)++aI au (O.drop (j+1))) ek rfl rfl (by omega) (aG aO _) (bz aO (bi g2)) rfl) ?_
   refine aj (bb (us:=au (O.getD j dPt)) bo rfl rfl rfl rfl) ?_
   refine ap 2<|aj (aW (us:=au (L.getD n dPt)++aI au (L.drop (n+1))) ek rfl rfl (by omega) (aG aO _) (bz aO (bi g1)) rfl) ?_
   refine aj (bb (us:=au (L.getD n dPt)) bo rfl rfl rfl rfl) ?_
   refine aj (am rfl (Je hc (GP.getD hO j) (GP.getD hL n)))<|bk<|az<|ar ?_
   refine aw rfl (fun hc5=>?_) (fun hc5=>?_)
   ·have g3:(c).ord (O.getD j dPt) (L.getD n dPt)<0:=of_decide_eq_true hc5
    refine ao<|aJ<|ab<|al 1<|ah (aK (r:=((j+1:Nat):Int)) rfl rfl ((aQ (by omega) (by omega)).trans (congrArg some (by omega))) rfl) ?_
    refine ag ?_
    exact⟨⟨j+1,g2,fun r hr=>(Nat.lt_succ_iff_lt_or_eq.1 hr).elim (h4 r) (fun e=>by rw[e];exact g3)⟩,aM ⟨rfl,rfl,rfl,rfl,rfl,trivial⟩ ⟨rfl,trivial⟩ rfl,by show O.length-(j+1)<O.length-j;omega⟩
   ·have g3: ¬(c).ord (O.getD j dPt) (L.getD n dPt)<0:=of_decide_eq_false hc5
    have hs:jd c (L.getD n dPt) O=j:=Ao h3 h4 (.inr g3)
    refine bj<|aa<|aa<|aR 15 rfl rfl<|ap 3<|aj (bQ (c:=true) (iP rfl) (decide_eq_true (by omega))) ?_
    refine ap 3<|aj (aW (us:=au (O.getD j dPt)++aI au (O.drop (j+1))) ek rfl rfl (by omega) (aG aO _) (bz aO (bi g2)) rfl) ?_
    refine aj (bb (us:=au (O.getD j dPt)) bo rfl rfl rfl rfl) ?_
    refine ap 2<|aj (aW (us:=au (L.getD n dPt)++aI au (L.drop (n+1))) ek rfl rfl (by omega) (aG aO _) (bz aO (bi g1)) rfl) ?_
    refine aj (bb (us:=au (L.getD n dPt)) bo rfl rfl rfl rfl) ?_
    refine aj (am rfl (vD (GP.getD hO j) (GP.getD hL n)))<|bk<|az<|ar ?_
    refine aw rfl (fun hc6=>?_) (fun hc6=>?_)
    ·have g4:cP (O.getD j dPt) (L.getD n dPt)=0:=by simpa using hc6
     refine bj<|ab<|al 1<|ah (aK (r:=((n+1:Nat):Int)) rfl rfl ((aQ (by omega) (by omega)).trans (congrArg some (by omega))) rfl) ?_
     refine ag ?_
     exact⟨⟨n+1,g1⟩,aM ⟨rfl,rfl,by rw[nF g1,eO,Ou hs g2 g4];rfl,rfl,trivial⟩ ⟨rfl,trivial⟩ rfl,by show L.length-(n+1)<L.length-n;omega⟩
    ·have g5:cP (O.getD j dPt) (L.getD n dPt)≠0:=by simpa using hc6
     have g4: ¬(j<O.length∧cP (O.getD j dPt) (L.getD n dPt)=0):=fun h=>g5 h.2
     refine ao ?_
     rcases Nat.eq_zero_or_pos j with hj0|hj0
     ·refine yO 15 [10,14] aU (by kernel_rfl) rfl rfl<|fw rfl (jx ft rfl) rfl ?_
      refine fw rfl (bN rfl) rfl<|fw rfl (bN rfl) rfl<|fw rfl (oX (n':=0) (us':=[]) (jF (j:=(j:Int)) (n:=(O).length) (xs:=aI au (O)) (us:=aI au (O.take j)) ek rfl rfl (by omega) (aG aO _) (lK aO _ _) rfl) (by omega) (by rw[hj0];rfl)) rfl ?_
      refine fw rfl (nB ft rfl rfl rfl) rfl ?_
      refine fw rfl (bN rfl) rfl<|fw rfl (bN rfl) rfl<|fw rfl (aW (us:=au (L.getD n dPt)++aI au (L.drop (n+1))) ek rfl rfl (by omega) (aG aO _) (bz aO (bi g1)) rfl) rfl ?_
      refine fw rfl (bb (us:=au (L.getD n dPt)) bo rfl rfl rfl rfl) rfl ?_
      refine fw rfl (cC (n:=1) (us:=au (L.getD n dPt)) ft rfl rfl rfl (by decide) (by decide) rfl) rfl ?_
      refine xv rfl<|fw rfl (bN rfl) rfl<|fw rfl (bN rfl) rfl<|fw rfl (mP (j:=(j:Int)) (n:=(O).length) (xs:=aI au (O)) (n':=O.length-j) (us:=aI au (O.drop j)) ek rfl rfl (by omega) (aG aO _) (by omega) (lJ aO _ _) rfl) rfl ?_
      refine xv rfl ?_
      refine B5 (x0:=.tmp 52) (t1:=58) (y1:=.tmp 57) (t2:=62) (y2:=.tmp 61) (N':=O.length+1) (zs':=aI au (O.take j++(L.getD n dPt)::O.drop j)) ft (by decide) rfl rfl rfl rfl rfl rfl (rfl) (by rw[aG aO,List.length_drop]) (by kernel_rfl) (by kernel_rfl) (by decide) rfl rfl rfl rfl (by omega) (by rw[sb,hj0];rfl) (by omega) (gP (by omega)) (fun cg7 rg7 hga7 hgb7 hgc7=>?_)
      refine ag<|cV (t:=5) (m:=20) (us:=aI au (O.take j++(L.getD n dPt)::O.drop j)) rfl rfl (iY (n:=O.length+1) (by rw[aG aO,ju (by omega)]) (by assumption) (by omega)) (by omega) (by assumption) (fX (by rw[aG aO,ju (by omega)]))<|ab<|al 1<|ah (aK (r:=((n+1:Nat):Int)) rfl rfl ((aQ (by omega) (by omega)).trans (congrArg some (by omega))) rfl) ?_
      refine ag ?_
      exact⟨⟨n+1,g1⟩,aM ⟨rfl,rfl,by rw[nF g1,eO,sA hs g4,ju h3];rfl,rfl,trivial⟩ ⟨rfl,trivial⟩ rfl,by show L.length-(n+1)<L.length-n;omega⟩
     ·refine yO 15 [4,10,14] aU (by kernel_rfl) rfl rfl<|fw rfl (jx ft rfl) rfl ?_
      refine fw rfl (bN rfl) rfl<|fw rfl (bN rfl) rfl<|fw rfl ((jF (j:=(j:Int)) (n:=(O).length) (xs:=aI au (O)) (us:=aI au (O.take j)) ek rfl rfl (by omega) (aG aO _) (lK aO _ _) rfl)) rfl ?_
      refine xv rfl<|fw rfl (bN rfl) rfl<|fw rfl (bN rfl) rfl<|fw rfl (aW (us:=au (L.getD n dPt)++aI au (L.drop (n+1))) ek rfl rfl (by omega) (aG aO _) (bz aO (bi g1)) rfl) rfl ?_
      refine fw rfl (bb (us:=au (L.getD n dPt)) bo rfl rfl rfl rfl) rfl ?_
      refine fw rfl (cC (n:=1) (us:=au (L.getD n dPt)) ft rfl rfl rfl (by decide) (by decide) rfl) rfl ?_
      refine xv rfl<|fw rfl (bN rfl) rfl<|fw rfl (bN rfl) rfl<|fw rfl (mP (j:=(j:Int)) (n:=(O).length) (xs:=aI au (O)) (n':=O.length-j) (us:=aI au (O.drop j)) ek rfl rfl (by omega) (aG aO _) (by omega) (lJ aO _ _) rfl) rfl ?_
      refine xv rfl ?_
      refine Cl (x0:=.tmp 48) (t1:=52) (y1:=.tmp 51) (t2:=58) (y2:=.tmp 57) (t3:=62) (y3:=.tmp 61) (N':=O.length+1) (zs':=aI au (O.take j++(L.getD n dPt)::O.drop j)) ft (by decide) rfl rfl rfl rfl rfl rfl rfl rfl (by rw[aG aO,List.length_take,Nat.min_eq_left h3];rfl) (rfl) (by rw[aG aO,List.length_drop]) (by kernel_rfl) (by kernel_rfl) (hj0) rfl rfl rfl rfl rfl rfl (by omega) (sb.symm) (by omega) (gP (by omega)) (fun cg8 rg8 hga8 hgb8 hgc8=>?_)
      refine ag<|cV (t:=5) (m:=20) (us:=aI au (O.take j++(L.getD n dPt)::O.drop j)) rfl rfl (iY (n:=O.length+1) (by rw[aG aO,ju (by omega)]) (by assumption) (by omega)) (by omega) (by assumption) (fX (by rw[aG aO,ju (by omega)]))<|ab<|al 1<|ah (aK (r:=((n+1:Nat):Int)) rfl rfl ((aQ (by omega) (by omega)).trans (congrArg some (by omega))) rfl) ?_
      refine ag ?_
      exact⟨⟨n+1,g1⟩,aM ⟨rfl,rfl,by rw[nF g1,eO,sA hs g4,ju h3];rfl,rfl,trivial⟩ ⟨rfl,trivial⟩ rfl,by show L.length-(n+1)<L.length-n;omega⟩
 ·have hi:L.length≤n:=by have:=of_decide_eq_false hc1;omega
  refine bj<|aa<|ab<|ag<|an ?_
  rw[←Gs (c:=c) (l:=L) hi]
  exact aq (aE ae)
end Go.Proofs.YtkmdgigkbhmilaaGreat
