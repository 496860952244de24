/-root.Floor,point.Near,PointNear:the law at all readings. -/
import Derived.Test.YtacopbfkmnpfgaaGreatImN
namespace Go.Proofs.YtacopbfkmnpfgaaGreat
open Go Go.RowKit
theorem qJ:Ok Tryz.prog 161 [] [dR 0]:=by
 refine Ok.fn Tryz.func161 2 [.cell 0 31] rfl<|aa<|ab<|aw (ah br rfl) rfl<|aq<|aa<|ab<|aj (ak rfl (po (by omega) (by omega)))<|ag<|am ?_
 rw[Cy]
 exact ao (bb az rfl ae)
theorem wn {a b c:Rat}:Ok Tryz.prog 166 [dR a,dR b,dR c] [.a ((cR a++cR b++cR (zc b c)))]:=by
 refine Ok.fn Tryz.func166 15 [.cell 6 67] rfl<|aa<|ab<|al 3<|aw (ah fv rfl) rfl<|aq<|aa<|aa<|ab<|al 1<|aj (ak rfl (iW))<|ag ?_
 refine au rfl (fun hc1=>?_) (fun hc1=>?_)
 ·--region 2
  refine ab<|aj (ak rfl (qJ))<|ag<|aa<|ab<|al 3<|aj (aD (us:=(cR a++cR b++cR 0)) uv fv rfl rfl rfl) ?_
  refine ag<|am ?_
  rw[yU (qd hc1)]
  exact ao (bb g9 rfl ae)
 ·refine ap<|aa<|ab<|al 3<|aj (aD (us:=(cR a++cR b++cR c)) uv fv rfl rfl rfl) ?_
  refine ag<|am ?_
  rw[kR (ov hc1)]
  exact ao (bb g9 rfl ae)
theorem pB {a:Rat}:Ok Tryz.prog 82 [dR a] [.a ((cR a++cR 0++cR 0))]:=by
 refine Ok.fn Tryz.func82 7 [.cell 2 67] rfl<|aa<|ab<|al 1<|aw (ah fv rfl) rfl<|aq<|aa<|aM 4 rfl rfl<|an 1<|ai (ak rfl (qJ))<|ai (ak rfl (qJ))<|ai (aD (us:=(cR a++cR 0++cR 0)) uv fv rfl rfl rfl) ?_
 refine aV<|ar<|ag<|am ?_
 exact ao (bb g9 rfl ae)
theorem AG {a b c d e f:Rat}(ha:Rz 20000 a) (hb:Rz 1600 b) (hc:Rz 1600 c) (hd:Rz 20000 d) (he:Rz 1600 e) (hf:Rz 1600 f) (h1:Rz 1600 (a-d)) (c0:0≤c) (f0:0≤f):Ok Tryz.prog 40 [.a ((cR a++cR b++cR c)),.a ((cR d++cR e++cR f))] [.c (.b (iH (a-d) b (-e) 0 c f==0))]:=by
 refine Ok.fn Tryz.func40 9 [.tmp 4] rfl<|aa<|ab<|ag<|aa<|ab<|al 2<|aj (ak rfl (qA (by assumption) (by assumption) (by assumption) (by assumption) (by assumption) (by assumption) (by assumption) (by assumption) (by assumption)))<|ag<|am ?_
 exact ao (aC ae)
theorem ro {a b c d:Rat}(ha:Rz 20000 a) (hb:Rz 1600 b) (hc:Rz 1600 c) (hd:Rz 20000 d) (h1:Rz 1600 (a-d)) (c0:0≤c):Ok Tryz.prog 94 [.a ((cR a++cR b++cR c)),dR d] [.c (.i .i64 (iH (a-d) b (-0) 0 c 0))]:=by
 have z0:Rz 1600 (0:Rat):=Rz.zero (by decide)
 refine Ok.fn Tryz.func94 9 [.tmp 4] rfl<|aa<|ab<|ag<|aa<|aM 5 rfl rfl<|an 2<|ai (ak rfl (pB))<|ai (ak rfl (qA (by assumption) (by assumption) (by assumption) (by assumption) z0 z0 h1 c0 Rat.le_refl))<|bJ<|ar<|aq<|am ?_
 exact ao (aC ae)
theorem CX {a b c d:Rat}(hc:0≤c):iH (a-d) b (-0) 0 c 0=cg (a-d) b c:=by
 rw[qE hc Rat.le_refl,gm hc]
 exact congrArg ce (Re.ext fun n=>by unfold dX;simp only[bK,bE,bU,dc];grind)
theorem Ja {p q:Pt}(hp:GP p) (hq:GP q):Ok Tryz.prog 34 [.a (ay p),.a (ay q)] [.c (.i .i64 (cP p q))]:=tS (oz (hp.a1.mono (by decide)) (hp.b1.mono (by decide)) (hp.a2.mono (by decide)) (hp.b2.mono (by decide)) (hp.c.mono (by decide)) (hq.a1.mono (by decide)) (hq.b1.mono (by decide)) (hq.a2.mono (by decide)) (hq.b2.mono (by decide)) (hq.c.mono (by decide)) ((hp.a1.sub hq.a1).mono (by decide)) ((hp.a2.sub hq.a2).mono (by decide))) (yw (iG hp) (iG hq))
theorem MT {p q:Pt}(hp:GP p) (hq:GP q):Ok Tryz.prog 98 [.a (ay p),.a (ay q)] [.c (.b (cP p q==0))]:=Bc (zV (hp.a1.mono (by decide)) (hp.b1.mono (by decide)) (hp.a2.mono (by decide)) (hp.b2.mono (by decide)) (hp.c.mono (by decide)) (hq.a1.mono (by decide)) (hq.b1.mono (by decide)) (hq.a2.mono (by decide)) (hq.b2.mono (by decide)) (hq.c.mono (by decide)) ((hp.a1.sub hq.a1).mono (by decide)) ((hp.a2.sub hq.a2).mono (by decide))) (by rw[yw (iG hp) (iG hq)];rfl)
theorem Uo {p q:Pt}(hp:GP p) (hq:GP q):Ok Tryz.prog 90 [.a ((cR p.a1++cR p.b1++cR (zc p.b1 p.c))),.a ((cR q.a1++cR q.b1++cR (zc q.b1 q.c)))] [.c (.i .i64 (cx p q))]:=qA (hp.a1.mono (by decide)) (hp.b1.mono (by decide)) (Rz.zc (hp.c.mono (by decide)) (by decide)) (hq.a1.mono (by decide)) (hq.b1.mono (by decide)) (Rz.zc (hq.c.mono (by decide)) (by decide)) ((hp.a1.sub hq.a1).mono (by decide)) (jR (iG hp)) (jR (iG hq))
theorem Uc {p q:Pt}(hp:GP p) (hq:GP q):Ok Tryz.prog 40 [.a ((cR p.a1++cR p.b1++cR (zc p.b1 p.c))),.a ((cR q.a1++cR q.b1++cR (zc q.b1 q.c)))] [.c (.b (cx p q==0))]:=AG (hp.a1.mono (by decide)) (hp.b1.mono (by decide)) (Rz.zc (hp.c.mono (by decide)) (by decide)) (hq.a1.mono (by decide)) (hq.b1.mono (by decide)) (Rz.zc (hq.c.mono (by decide)) (by decide)) ((hp.a1.sub hq.a1).mono (by decide)) (jR (iG hp)) (jR (iG hq))
theorem Uj {p:Pt}(hp:GP p) {v:Rat}(hv:Rz 400 v):Ok Tryz.prog 94 [.a ((cR p.a1++cR p.b1++cR (zc p.b1 p.c))),dR v] [.c (.i .i64 (rF p v))]:=tS (ro (hp.a1.mono (by decide)) (hp.b1.mono (by decide)) (Rz.zc (hp.c.mono (by decide)) (by decide)) (hv.mono (by decide)) ((hp.a1.sub hv).mono (by decide)) (jR (iG hp))) (CX (jR (iG hp)))
theorem Ul {p:Pt}(hp:GP p) {v:Rat}(hv:Rz 400 v):Ok Tryz.prog 94 [.a ((cR p.a2++cR p.b2++cR (zc p.b2 p.c))),dR v] [.c (.i .i64 (lp p v))]:=tS (ro (hp.a2.mono (by decide)) (hp.b2.mono (by decide)) (Rz.zc (hp.c.mono (by decide)) (by decide)) (hv.mono (by decide)) ((hp.a2.sub hv).mono (by decide)) (jR (iG hp))) (CX (jR (iG hp)))
theorem ng {x y:Rat}(hx:Rz 60000 x) (hy:Rz 60000 y):Ok Tryz.prog 177 [dR x,dR y] [dR (x+y)]:=by
 refine Ok.fn Tryz.func177 8 [.cell 4 31] rfl<|aa<|ab<|al 2<|aw (ah br rfl) rfl<|aq<|aa<|ab<|al 2<|aj (ak rfl (nj (aO hx) (aO hy)))<|ag<|am ?_
 exact ao (bb az rfl ae)
theorem tJ {x y:Rat}(hx:Rz 60000 x) (hy:Rz 60000 y):Ok Tryz.prog 176 [dR x,dR y] [dR (x-y)]:=by
 refine Ok.fn Tryz.func176 8 [.cell 4 31] rfl<|aa<|ab<|al 2<|aw (ah br rfl) rfl<|aq<|aa<|ab<|al 2<|aj (ak rfl (iq (aO hx) (aO hy)))<|ag<|am ?_
 exact ao (bb az rfl ae)
theorem gG {x y:Rat}(hx:Rz 60000 x) (hy:Rz 60000 y):Ok Tryz.prog 178 [dR x,dR y] [dR (x*y)]:=by
 refine Ok.fn Tryz.func178 8 [.cell 4 31] rfl<|aa<|ab<|al 2<|aw (ah br rfl) rfl<|aq<|aa<|ab<|al 2<|aj (ak rfl (ek (aO hx) (aO hy)))<|ag<|am ?_
 exact ao (bb az rfl ae)
theorem N8 {a b m:Rat}(ha:Rz 20000 a) (hb:Rz 20000 b) (hm:Rz 20000 m):Ok Tryz.prog 175 [dR a,dR b,dR m] [.c (.i .i64 (cg a b m))]:=by
 have ka:Rz 60000 a:=ha.m_
 have kb:Rz 60000 b:=hb.m_
 have hp:=gj (dK b 0) (dK m 0)
 have hp2:=gj (dK a 0) (dK (a*a) (b*b*m))
 refine Ok.fn Tryz.func175 40 [.tmp 6] rfl<|aa<|ab<|ag<|aa<|aM 9 rfl rfl<|an 1<|ai (ak rfl (dw))<|an 1<|ai (ak rfl (dw))<|an 1<|ai (ak rfl (dw))<|ai (aG (r:=(a7 b 0)*(a7 m 0)) rfl rfl (eB (by omega) (by omega)) rfl) ?_
 refine bJ<|ar<|aq<|aa<|aX<|aa<|ab<|al 2 ?_
 refine cm (bO rfl) (fun c1 hb1=>?_)
 cases c1
 ·refine ag ?_
  refine au rfl (fun hc2=>?_) (fun hc2=>?_)
  ·refine aa<|ab<|ag<|am ?_
   unfold cg
   rw[pi hc2]
   exact ao (aC ae)
  ·refine aa<|ab<|ag ?_
   refine au rfl (fun hc3=>?_) (fun hc3=>?_)
   ·refine aa<|ab<|ag<|am ?_
    unfold cg
    rw[p7 hc3]
    exact ao (aC ae)
   ·refine ap<|aa<|aM 12 rfl rfl<|an 3<|ai (ak rfl (gG (aO ha) (aO ha)))<|an 2<|ai (ak rfl (gG (aO hb) (aO hb)))<|an 1<|ai (ak rfl (gG (aO (Rz.mul hb hb)) (aO hm)))<|ai (ak rfl (lv (aO (Rz.mul ha ha)) (aO (Rz.mul (Rz.mul hb hb) hm))))<|ai (aG (r:=(a7 a 0)*(a7 (a*a) ((b*b)*m))) rfl rfl (eB (by omega) (by omega)) rfl) ?_
    refine bJ<|ar<|aq<|am ?_
    unfold cg
    rw[pE hc3 hb1 hc2]
    exact ao (aC ae)
 ·refine ag<|bo rfl<|aa<|ab<|ag<|am ?_
  unfold cg
  rw[ph hb1]
  exact ao (aC ae)
theorem De {x y:Int}(hx:Bd x) (hy:Bd y):Ok Tryz.prog 255 [.a (([.i .i64 x]++[.i .i64 y]))] [.a (([.i .i64 (-y)]++[.i .i64 (-x)]))]:=by
 unfold Bd at hx hy
 refine Ok.fn Tryz.func255 10 [.cell 2 221] rfl<|aa<|ab<|al 1<|aw (ah dC rfl) rfl<|aq<|aa<|ab<|al 2<|aj (eI (r:= -y) rfl (by rw[Int.zero_sub];exact lU (by omega) (by omega)) rfl) ?_
 refine al 2<|aj (eI (r:= -x) rfl (by rw[Int.zero_sub];exact lU (by omega) (by omega)) rfl) ?_
 refine aj (aD (us:=([.i .i64 (-y)]++[.i .i64 (-x)])) km dC rfl rfl rfl) ?_
 refine ag<|am ?_
 exact ao (bb fV rfl ae)
theorem Fc {a b c v:Rat}(ha:Rz 40000 a) (hb:Rz 40000 b) (hc:Rz 40000 c) (hv:Rz 40000 v):Ok Tryz.prog 257 [dR a,dR b,dR c,dR v] [.a (([.i .i64 (vr a b c v)]++[.i .i64 (vf a b c v)])),.c (.b (Am a b c v))]:=by
 refine Ok.fn Tryz.func257 40 [.cell 8 221,.tmp 9] rfl<|aa<|ab<|al 4<|aw (ah dC rfl) rfl<|ag<|aa<|ab<|al 3<|aj (aD (us:=(cR a++cR b++cR c)) uv fv rfl rfl rfl) ?_
 refine aj (ak rfl (o5 (by assumption) (by assumption) (by assumption)))<|al 3<|aw (ah dC rfl) rfl<|ag<|aa<|ab<|al 1<|aj (ak rfl (fx (aO hv)))<|al 3<|aw (ah dC rfl) rfl<|ag<|aa<|aa<|ab ?_
 refine al 2 ?_
 refine cm (bO rfl) (fun c1 hb1=>?_)
 cases c1
 ·refine ag ?_
  refine au rfl (fun hc2=>?_) (fun hc2=>?_)
  ·have n1:rA a b c v=false:=by unfold rA;rw[dS hb1,fX hc2];rfl
   refine aa<|ab<|aj (aD (us:=([.i .i64 0]++[.i .i64 0])) km dC rfl rfl rfl) ?_
   refine ag<|am ?_
   rw[(ve n1).1,(ve n1).2.1,(ve n1).2.2]
   exact ao (bb fV rfl (aC ae))
  ·have n1:rA a b c v=true:=by unfold rA;rw[dS hb1,dS hc2];rfl
   refine ap<|aa<|aM 6 rfl rfl<|an 2<|ai (ak rfl (De (nv _) (mQ _)))<|ai (ak rfl (nO (Q7 _ _ _) (QA _ _ _) (Bd.neg (mQ _)) (Bd.neg (nv _))))<|bJ<|ar<|ag<|am ?_
   rw[(xa n1).1,(xa n1).2.1,(xa n1).2.2]
   exact ao (bb fV rfl (aC ae))
 ·have n1:rA a b c v=false:=by unfold rA;rw[fX hb1];rfl
  refine ag<|bo rfl<|aa<|ab<|aj (aD (us:=([.i .i64 0]++[.i .i64 0])) km dC rfl rfl rfl) ?_
  refine ag<|am ?_
  rw[(ve n1).1,(ve n1).2.1,(ve n1).2.2]
  exact ao (bb fV rfl (aC ae))
theorem LL {k:Ci}(hk:GK k) {p:Pt}(hp:GP p):Ok Tryz.prog 180 [.a (ci k),.a (ay p)] [.c (.i .i64 (Nx k p)),.c (.b (Ml k p))]:=by
 refine Ok.fn Tryz.func180 95 [.tmp 4,.tmp 5] rfl<|aa<|ab<|ag<|aa<|ab<|al 1<|aj (aA (cR p.a1) az rfl)<|al 1<|aj (aA (cR p.b1) az rfl)<|al 1<|aj (aA (cR p.c) az rfl)<|al 1<|aj (aA (cR k.x) az rfl) ?_
 refine aj (ak rfl (Fc (hp.a1.m_) (hp.b1.m_) (hp.c.m_) (hk.x.m_)))<|al 3<|aw (ah dC rfl) rfl<|ag<|aa<|ab<|al 1<|aj (aA (cR p.a2) az rfl)<|al 1<|aj (aA (cR p.b2) az rfl)<|al 1<|aj (aA (cR p.c) az rfl)<|al 1<|aj (aA (cR k.y) az rfl) ?_
 refine aj (ak rfl (Fc (hp.a2.m_) (hp.b2.m_) (hp.c.m_) (hk.y.m_)))<|al 3<|aw (ah dC rfl) rfl<|ag<|aa<|ab<|al 1<|aj (aA (cR k.q) az rfl)<|aj (ak rfl (fx (hk.q.m_)))<|al 3<|aw (ah dC rfl) rfl<|ag<|aa<|aa ?_
 refine ab<|al 2 ?_
 refine cm (bO rfl) (fun c1 hb1=>?_)
 cases c1
 ·refine al 3 ?_
  refine cm (bO rfl) (fun c2 hb2=>?_)
  cases c2
  ·refine ag ?_
   refine au rfl (fun hc3=>?_) (fun hc3=>?_)
   ·refine aa<|ab<|ag<|am ?_
    have m0:Jq k p=false:=by unfold Jq;rw[show Am p.a1 p.b1 p.c k.x=true from dS hb1,show Am p.a2 p.b2 p.c k.y=true from dS hb2,show fw k.q=false from fX hc3];rfl
    have m1:CD k p=false:=by unfold CD;rw[m0];rfl
    have m2:Al k p=false:=by unfold Al;rw[m1];rfl
    have m3:um k p=false:=by unfold um;rw[m2];rfl
    rw[(kv m3).1,(kv m3).2]
    exact ao (aC (aC ae))
   ·have n1:Jq k p=true:=by unfold Jq;rw[show Am p.a1 p.b1 p.c k.x=true from dS hb1,show Am p.a2 p.b2 p.c k.y=true from dS hb2,show fw k.q=true from dS hc3];rfl
    refine ap<|aa<|ab<|al 2<|aj (ak rfl (nR (wH _ _ _ _) (xj _ _ _ _) (wH _ _ _ _) (xj _ _ _ _)))<|al 3<|aw (ah dC rfl) rfl<|ag<|aa<|ab<|al 2<|aj (ak rfl (nR (wH _ _ _ _) (xj _ _ _ _) (wH _ _ _ _) (xj _ _ _ _)))<|al 3<|aw (ah dC rfl) rfl ?_
    refine ag<|aa<|aa<|ab<|al 2 ?_
    refine cm (bO rfl) (fun c4 hb4=>?_)
    cases c4
    ·refine ag ?_
     refine au rfl (fun hc5=>?_) (fun hc5=>?_)
     ·refine aa<|ab<|ag<|am ?_
      have m1:CD k p=false:=by unfold CD;rw[n1,show JJ k p=true from dS hb4,show Pn k p=false from fX hc5];rfl
      have m2:Al k p=false:=by unfold Al;rw[m1];rfl
      have m3:um k p=false:=by unfold um;rw[m2];rfl
      rw[(kv m3).1,(kv m3).2]
      exact ao (aC (aC ae))
     ·have n2:CD k p=true:=by unfold CD;rw[n1,show JJ k p=true from dS hb4,show Pn k p=true from dS hc5];rfl
      refine ap<|aa<|ab<|al 2<|aj (ak rfl (nO B8.1 B8.2 Cb.1 Cb.2))<|al 3<|aw (ah dC rfl) rfl<|ag<|aa<|aa<|ab<|ag ?_
      refine au rfl (fun hc6=>?_) (fun hc6=>?_)
      ·refine aa<|ab<|ag<|am ?_
       have m2:Al k p=false:=by unfold Al;rw[n2,show TL k p=false from fX hc6];rfl
       have m3:um k p=false:=by unfold um;rw[m2];rfl
       rw[(kv m3).1,(kv m3).2]
       exact ao (aC (aC ae))
      ·have n3:Al k p=true:=by unfold Al;rw[n2,show TL k p=true from dS hc6];rfl
       refine ap<|aa<|dr 10 [15,999999] bd (by kernel_rfl) rfl rfl<|an 2<|ai (ak rfl (De (nv _) (mQ _)))<|ai (ak rfl (nO HA.1 HA.2 (Bd.neg (mQ _)) (Bd.neg (nv _))))<|an 3<|bh (ah dC rfl) rfl<|oD (iE fV rfl) rfl rfl rfl rfl<|bJ<|cS<|aq<|aa<|aa ?_
       refine ab<|ag ?_
       refine au rfl (fun hc7=>?_) (fun hc7=>?_)
       ·refine aa<|ab<|ag<|am ?_
        have m3:um k p=false:=by unfold um;rw[n3,show SN k p=false from fX hc7];rfl
        rw[(kv m3).1,(kv m3).2]
        exact ao (aC (aC ae))
       ·have n4:um k p=true:=by unfold um;rw[n3,show SN k p=true from dS hc7];rfl
        refine ap<|aa<|ab<|al 1<|aj (ak rfl (yy))<|ag<|am ?_
        rw[(Bo n4).1,(Bo n4).2]
        exact ao (aC (aC ae))
    ·refine ag<|bo rfl<|aa<|ab<|ag<|am ?_
     have m1:CD k p=false:=by unfold CD;rw[n1,show JJ k p=false from fX hb4];rfl
     have m2:Al k p=false:=by unfold Al;rw[m1];rfl
     have m3:um k p=false:=by unfold um;rw[m2];rfl
     rw[(kv m3).1,(kv m3).2]
     exact ao (aC (aC ae))
  ·refine ag<|bo rfl<|aa<|ab<|ag<|am ?_
   have m0:Jq k p=false:=by unfold Jq;rw[show Am p.a1 p.b1 p.c k.x=true from dS hb1,show Am p.a2 p.b2 p.c k.y=false from fX hb2];rfl
   have m1:CD k p=false:=by unfold CD;rw[m0];rfl
   have m2:Al k p=false:=by unfold Al;rw[m1];rfl
   have m3:um k p=false:=by unfold um;rw[m2];rfl
   rw[(kv m3).1,(kv m3).2]
   exact ao (aC (aC ae))
 ·refine ag<|bo rfl<|aa<|ab<|ag<|am ?_
  have m0:Jq k p=false:=by unfold Jq;rw[show Am p.a1 p.b1 p.c k.x=false from fX hb1];rfl
  have m1:CD k p=false:=by unfold CD;rw[m0];rfl
  have m2:Al k p=false:=by unfold Al;rw[m1];rfl
  have m3:um k p=false:=by unfold um;rw[m2];rfl
  rw[(kv m3).1,(kv m3).2]
  exact ao (aC (aC ae))
theorem Ii (k:Ci) (p:Pt):(p.a1-k.x)*(p.a1-k.x)+(p.a2-k.y)*(p.a2-k.y)+p.c*(p.b1*p.b1+p.b2*p.b2)-k.q=Ep k p:=by unfold Ep Dk;grind
theorem QH {k:Ci}(hk:GK k) {p:Pt}(hp:GP p):Ok Tryz.prog 95 [.a (ci k),.a (ay p)] [.c (.i .i64 (mS k p))]:=by
 have b1:=J0 k p
 have b2:=fO (Ep k p) (wS k p) p.c
 have e3:=Rl (k:=k) hp
 have wA:=HU hk hp
 have wB:=Iq hk hp
 refine Ok.fn Tryz.func95 72 [.tmp 4] rfl<|aa<|ab<|ag<|aa<|aa<|ab<|al 2<|aj (ak rfl (LL hk hp))<|ag<|aa<|ab<|ag ?_
 refine au rfl (fun hc1=>?_) (fun hc1=>?_)
 ·have e4:=QN hp hc1
  refine aa<|ab<|al 1<|aj (eI (r:= -Nx k p) rfl (by rw[Int.zero_sub];exact lU (by omega) (by omega)) rfl) ?_
  refine ag<|am ?_
  rw[←e4]
  exact ao (aC ae)
 ·refine ap<|aa<|aM 12 rfl rfl<|an 1<|ai (aA (cR p.a1) az rfl)<|an 1<|ai (aA (cR k.x) az rfl)<|ai (ak rfl (tJ (aO (hp.a1)) (aO (hk.x))))<|an 1<|ai (aA (cR p.a2) az rfl)<|an 1<|ai (aA (cR k.y) az rfl)<|ai (ak rfl (tJ (aO (hp.a2)) (aO (hk.y))))<|bh (ah br rfl) rfl ?_
  refine bh (ah br rfl) rfl<|aV<|cS<|ag<|aa<|dr 8 [9,10,999999] bd (by kernel_rfl) rfl rfl<|an 1<|ai (aA (cR p.b1) az rfl)<|an 1<|ai (aA (cR p.b2) az rfl)<|bh (ah br rfl) rfl<|bh (ah br rfl) rfl<|oD (iE az rfl) rfl rfl rfl rfl<|oD (iE az rfl) rfl rfl rfl rfl ?_
  refine aV<|jy<|aq<|aa<|aM 19 rfl rfl<|an 2<|ai (ak rfl (gG (aO (Rz.sub (hp.a1) (hk.x))) (aO (Rz.sub (hp.a1) (hk.x)))))<|an 2<|ai (ak rfl (gG (aO (Rz.sub (hp.a2) (hk.y))) (aO (Rz.sub (hp.a2) (hk.y)))))<|ai (ak rfl (ng (aO (Rz.mul (Rz.sub (hp.a1) (hk.x)) (Rz.sub (hp.a1) (hk.x)))) (aO (Rz.mul (Rz.sub (hp.a2) (hk.y)) (Rz.sub (hp.a2) (hk.y))))))<|an 1<|ai (aA (cR p.c) az rfl)<|an 2<|ai (ak rfl (gG (aO (hp.b1)) (aO (hp.b1)))) ?_
  refine an 2<|ai (ak rfl (gG (aO (hp.b2)) (aO (hp.b2))))<|ai (ak rfl (ng (aO (Rz.mul (hp.b1) (hp.b1))) (aO (Rz.mul (hp.b2) (hp.b2)))))<|ai (ak rfl (gG (aO (hp.c)) (aO (Rz.add (Rz.mul (hp.b1) (hp.b1)) (Rz.mul (hp.b2) (hp.b2))))))<|ai (ak rfl (ng (aO (Rz.add (Rz.mul (Rz.sub (hp.a1) (hk.x)) (Rz.sub (hp.a1) (hk.x))) (Rz.mul (Rz.sub (hp.a2) (hk.y)) (Rz.sub (hp.a2) (hk.y))))) (aO (Rz.mul (hp.c) (Rz.add (Rz.mul (hp.b1) (hp.b1)) (Rz.mul (hp.b2) (hp.b2)))))))<|bh (ah br rfl) rfl<|aV<|bi<|ag<|aa<|aM 8 rfl rfl<|an 2<|ai (ak rfl (gG (aO (Rz.sub (hp.a1) (hk.x))) (aO (hp.b1))))<|an 2 ?_
  refine ai (ak rfl (gG (aO (Rz.sub (hp.a2) (hk.y))) (aO (hp.b2))))<|ai (ak rfl (ng (aO (Rz.mul (Rz.sub (hp.a1) (hk.x)) (hp.b1))) (aO (Rz.mul (Rz.sub (hp.a2) (hk.y)) (hp.b2)))))<|bh (ah br rfl) rfl<|aV<|bi<|ag<|aa<|aM 12 rfl rfl<|an 2<|ai (aA (cR k.q) az rfl)<|ai (ak rfl (tJ (aO (Rz.add (Rz.add (Rz.mul (Rz.sub (hp.a1) (hk.x)) (Rz.sub (hp.a1) (hk.x))) (Rz.mul (Rz.sub (hp.a2) (hk.y)) (Rz.sub (hp.a2) (hk.y)))) (Rz.mul (hp.c) (Rz.add (Rz.mul (hp.b1) (hp.b1)) (Rz.mul (hp.b2) (hp.b2)))))) (aO (hk.q))))<|an 2<|ai (ak rfl (ng (aO (Rz.add (Rz.mul (Rz.sub (hp.a1) (hk.x)) (hp.b1)) (Rz.mul (Rz.sub (hp.a2) (hk.y)) (hp.b2)))) (aO (Rz.add (Rz.mul (Rz.sub (hp.a1) (hk.x)) (hp.b1)) (Rz.mul (Rz.sub (hp.a2) (hk.y)) (hp.b2))))))<|an 1 ?_
  refine ai (aA (cR p.c) az rfl)<|ai (ak rfl (tS (c:=cg (Ep k p) (wS k p) p.c) (N8 (by rw[Ii];exact wA.m_) (wB.m_) (hp.c.m_)) (by rw[Ii];rfl)))<|ai (eI (r:= -cg (Ep k p) (wS k p) p.c) rfl (yB b2) rfl) ?_
  refine bJ<|ar<|aq<|am ?_
  rw[←e3]
  exact ao (aC ae)
theorem uU {a b c:Rat}(ha:Rz 20000 a) (hb:Rz 20000 b) (hc:Rz 20000 c) (h0: ¬c<0) (hs:iD c=true):Ok Tryz.prog 86 [dR a,dR b,dR c] [.a ((cR (a+b*rt c)++cR 0++cR 0)),.c (.i .i64 0)]:=by
 have kt:Rz 20000 (rt c):=hc.rt
 have k1:Rz 60000 (b*rt c):=(hb.mul hc.rt).m_
 refine Ok.fn Tryz.func86 30 [.cell 6 67,.tmp 7] rfl<|aa<|ab<|al 3<|aw (ah fv rfl) rfl<|ag<|aa<|aa<|ab<|al 1<|aj (ak rfl (dw))<|ag ?_
 refine au rfl (fun hc1=>?_) (fun hc1=>?_)
 ·exact absurd (yL hc1) h0
 ·refine ap<|aa<|aa<|ab<|al 1<|aj (ak rfl (qL (aO hc)))<|al 3<|aw (ah br rfl) rfl<|ag<|aa<|ab<|ag ?_
  refine au rfl (fun hc2=>?_) (fun hc2=>?_)
  ·refine Dw.weak (σ':=⟨30,[(3,.p 3 0),(4,.p 4 0),(6,.p 6 0),(8,.p 8 0)],[(3,31,cR a),(4,31,cR b),(6,67,zR),(8,31,cR (rt c))]⟩) (aR ⟨rfl,rfl,rfl,rfl,trivial⟩ ⟨rfl,rfl,rfl,by rw[←tZ hs];rfl,trivial⟩ rfl) ?_
   refine aa<|aM 6 rfl rfl<|an 3<|ai (ak rfl (ek (aO hb) (Qo)))<|ai (ak rfl (nj (aO ha) (aO (Rz.mul hb (by assumption)))))<|ai (ak rfl (pB))<|aV<|ar<|ag<|am ?_
   exact ao (bb g9 rfl (aC ae))
  ·exact absurd hs (by rw[hc2];decide)
theorem va {a b c:Rat}(_ha:Rz 20000 a) (_hb:Rz 20000 b) (hc:Rz 20000 c) (h0: ¬c<0) (hs:iD c=false):Ok Tryz.prog 86 [dR a,dR b,dR c] [.a ((cR a++cR b++cR (zc b c))),.c (.i .i64 0)]:=by
 refine Ok.fn Tryz.func86 30 [.cell 6 67,.tmp 7] rfl<|aa<|ab<|al 3<|aw (ah fv rfl) rfl<|ag<|aa<|aa<|ab<|al 1<|aj (ak rfl (dw))<|ag ?_
 refine au rfl (fun hc1=>?_) (fun hc1=>?_)
 ·exact absurd (yL hc1) h0
 ·refine ap<|aa<|aa<|ab<|al 1<|aj (ak rfl (qL (aO hc)))<|al 3<|aw (ah br rfl) rfl<|ag<|aa<|ab<|ag ?_
  refine au rfl (fun hc2=>?_) (fun hc2=>?_)
  ·exact absurd hc2 (by rw[hs];decide)
  ·refine ap<|aa<|ab<|al 3<|aj (ak rfl (wn))<|ag<|am ?_
   exact ao (bb g9 rfl (aC ae))
theorem D4 {x u y v q:Rat}(hx:Rz 50 x) (hu:Rz 50 u) (hy:Rz 50 y) (hv:Rz 50 v) (hq:Rz 100 q) (h0:0<q) (_hb: ¬(u=0∧v=0)) (hs:iD q=true):Ok Tryz.prog 101 [dR x,dR u,dR y,dR v,dR q] [.a (ay (gX x u y v q))]:=by
 have nq: ¬q<0:=by grind
 refine Ok.fn Tryz.func101 38 [.cell 10 37] rfl<|aa<|ab<|al 5<|aw (ah hJ rfl) rfl<|aq<|aa<|ab<|al 3<|aj (ak rfl (uU (hx.m_) (hu.m_) (hq.m_) nq hs))<|al 3<|aw (ah fv rfl) rfl<|ag<|aa ?_
 refine ab<|al 3<|aj (ak rfl (uU (hy.m_) (hv.m_) (hq.m_) nq hs))<|al 3<|aw (ah fv rfl) rfl<|ag<|aa<|ab<|al 2<|aj (ak rfl (HN (v':=0) (uJ (Rz.zero (by decide)) (Rz.zero (by decide)) (fun e=>e.1 rfl)) rfl rfl rfl rfl (My rfl rfl)))<|al 3<|aw (ah hJ rfl) rfl<|ag<|aa ?_
 refine ab<|ag<|am ?_
 rw[show gX x u y v q=⟨x+u*rt q,0,y+v*rt q,0,0⟩ from by unfold gX;rw[hs];rfl]
 exact ao (bb ca rfl ae)
theorem DL {x u y v q:Rat}(hx:Rz 50 x) (hu:Rz 50 u) (hy:Rz 50 y) (hv:Rz 50 v) (hq:Rz 100 q) (h0:0<q) (hb: ¬(u=0∧v=0)) (hs:iD q=false):Ok Tryz.prog 101 [dR x,dR u,dR y,dR v,dR q] [.a (ay (gX x u y v q))]:=by
 have nq: ¬q<0:=by grind
 have hz: ∀w:Rat,Rz 300 (zc w q):=fun w=>Rz.zc (hq.m_) (by decide)
 refine Ok.fn Tryz.func101 38 [.cell 10 37] rfl<|aa<|ab<|al 5<|aw (ah hJ rfl) rfl<|aq<|aa<|ab<|al 3<|aj (ak rfl (va (hx.m_) (hu.m_) (hq.m_) nq hs))<|al 3<|aw (ah fv rfl) rfl<|ag<|aa ?_
 refine ab<|al 3<|aj (ak rfl (va (hy.m_) (hv.m_) (hq.m_) nq hs))<|al 3<|aw (ah fv rfl) rfl<|ag<|aa<|ab<|al 2<|aj (ak rfl (HN (v':=q) (uJ (hz _) (hz _) (fun e=>e.2.2 (by rw[kR e.1,kR e.2.1]))) rfl rfl rfl rfl (NH hb)))<|al 3<|aw (ah hJ rfl) rfl<|ag<|aa ?_
 refine ab<|ag<|am ?_
 rw[show gX x u y v q=⟨x,u,y,v,q⟩ from by unfold gX;rw[hs];rfl]
 exact ao (bb ca rfl ae)
theorem Gv {x u y v q:Rat}(hx:Rz 50 x) (hu:Rz 50 u) (hy:Rz 50 y) (hv:Rz 50 v) (hq:Rz 100 q) (h0:0<q) (hb: ¬(u=0∧v=0)):Ok Tryz.prog 101 [dR x,dR u,dR y,dR v,dR q] [.a (ay (gX x u y v q))]:=by
 cases hs:iD q with
 |true=>exact D4 hx hu hy hv hq h0 hb hs
 |false=>exact DL hx hu hy hv hq h0 hb hs
theorem RL {k:Ci}(hk:GK k) (h0:0<k.q):Ok Tryz.prog 35 [.a (ci k)] [.a (ay (wy k)),.a (ay (xz k))]:=by
 have o1:Rz 60000 (1:Rat):=ky.m_
 refine Ok.fn Tryz.func35 27 [.cell 2 37,.cell 3 37] rfl<|aa<|ab<|al 1<|aw (ah hJ rfl) rfl<|aw (ah hJ rfl) rfl<|aq<|aa<|ab<|aj (ak rfl (db (nL (by decide) (by decide)) (show((1:Int):Rat)=1 from rfl)))<|aj (ak rfl (db (nL (by decide) (by decide)) (show((0:Int):Rat)=0 from rfl)))<|aw (ah br rfl) rfl<|aw (ah br rfl) rfl<|ag ?_
 refine aa<|aM 19 rfl rfl<|an 1<|ai (aA (cR k.x) az rfl)<|an 1<|ai (ak rfl (jS o1))<|an 1<|ai (aA (cR k.y) az rfl)<|an 2<|ai (aA (cR k.q) az rfl)<|ai (ak rfl (Gv (hk.x.m_) (ky.neg.m_) (hk.y.m_) (Rz.zero (by decide)) (hk.q.m_) h0 (fun e=>absurd e.1 (by decide))))<|an 1<|ai (aA (cR k.x) az rfl)<|an 2 ?_
 refine ai (aA (cR k.y) az rfl)<|an 2<|ai (aA (cR k.q) az rfl)<|ai (ak rfl (Gv (hk.x.m_) (ky.m_) (hk.y.m_) (Rz.zero (by decide)) (hk.q.m_) h0 (fun e=>absurd e.1 (by decide))))<|aV<|ar<|ag<|am ?_
 exact ao (bb ca rfl (bb ca rfl ae))
theorem MK {l:Ln}(hl:GL l):Ok Tryz.prog 234 [.a (eQ l)] [dR (gD l)]:=by
 refine Ok.fn Tryz.func234 14 [.cell 2 31] rfl<|aa<|ab<|al 1<|aw (ah br rfl) rfl<|aq<|aa<|aM 11 rfl rfl<|an 1<|ai (aA (cR l.a) az rfl)<|an 1<|ai (aA (cR l.a) az rfl)<|ai (ak rfl (di (aO (hl.a)) (aO (hl.a))))<|an 1 ?_
 refine ai (aA (cR l.b) az rfl)<|an 1<|ai (aA (cR l.b) az rfl)<|ai (ak rfl (di (aO (hl.b)) (aO (hl.b))))<|ai (ak rfl (ll (aO (Rz.mul (hl.a) (hl.a))) (aO (Rz.mul (hl.b) (hl.b)))))<|aV<|ar<|ag<|am ?_
 exact ao (bb az rfl ae)
theorem L9 {l:Ln}{k:Ci}(hl:GL l) (hk:GK k):Ok Tryz.prog 236 [.a (eQ l),dR k.x,dR k.y] [dR (mF l k.x k.y)]:=by
 refine Ok.fn Tryz.func236 19 [.cell 6 31] rfl<|aa<|ab<|al 3<|aw (ah br rfl) rfl<|aq<|aa<|aM 12 rfl rfl<|an 1<|ai (aA (cR l.a) az rfl)<|an 1<|ai (ak rfl (di (aO (hl.a)) (aO (hk.x))))<|an 1<|ai (aA (cR l.b) az rfl) ?_
 refine an 1<|ai (ak rfl (di (aO (hl.b)) (aO (hk.y))))<|ai (ak rfl (ll (aO (Rz.mul (hl.a) (hk.x))) (aO (Rz.mul (hl.b) (hk.y)))))<|an 1<|ai (aA (cR l.c) az rfl)<|ai (ak rfl (fM (aO (Rz.add (Rz.mul (hl.a) (hk.x)) (Rz.mul (hl.b) (hk.y)))) (aO (hl.c))))<|aV<|ar<|ag<|am ?_
 exact ao (bb az rfl ae)
theorem N9 {l:Ln}{k:Ci}(hl:GL l) (hk:GK k):Ok Tryz.prog 233 [.a (eQ l),.a (ci k)] [dR (mn l k)]:=by
 have v1:Rz 60000 (mF l k.x k.y):=(lZ hl hk).m_
 have n1:Rz 60000 (gD l):=(lG hl).m_
 have n2:Rz 60000 k.q:=hk.q.m_
 have n3:Rz 60000 (gD l*k.q):=((lG hl).mul hk.q).m_
 have n4:Rz 60000 (mF l k.x k.y*mF l k.x k.y):=((lZ hl hk).mul (lZ hl hk)).m_
 refine Ok.fn Tryz.func233 21 [.cell 4 31] rfl<|aa<|ab<|al 2<|aw (ah br rfl) rfl<|aq<|aa<|ab<|al 2<|aj (aA (cR k.x) az rfl)<|al 1<|aj (aA (cR k.y) az rfl)<|aj (ak rfl (L9 hl hk))<|aw (ah br rfl) rfl ?_
 refine ag<|aa<|aM 9 rfl rfl<|an 1<|ai (ak rfl (MK hl))<|an 1<|ai (aA (cR k.q) az rfl) ?_
 refine ai (ak rfl (di (by first|assumption|exact Rz.mono (by assumption) (by decide)) (by first|assumption|exact Rz.mono (hk.q) (by decide)))) ?_
 refine an 2 ?_
 refine ai (ak rfl (di (by first|assumption|exact Rz.mono (by assumption) (by decide)) (by first|assumption|exact Rz.mono (by assumption) (by decide)))) ?_
 refine ai (ak rfl (fM (by first|assumption|exact Rz.mono (Rz.mul (by assumption) (hk.q)) (by decide)) (by first|assumption|exact Rz.mono (Rz.mul (by assumption) (by assumption)) (by decide)))) ?_
 refine aV<|ar<|ag<|am ?_
 exact ao (bb az rfl ae)
theorem Q6 {l m:Ln}(hl:GL l) (hm:GL m):Ok Tryz.prog 238 [.a (eQ l),.a (eQ m)] [dR (mv l m)]:=by
 refine Ok.fn Tryz.func238 16 [.cell 4 31] rfl<|aa<|ab<|al 2<|aw (ah br rfl) rfl<|aq<|aa<|aM 11 rfl rfl<|an 1<|ai (aA (cR l.a) az rfl)<|an 1<|ai (aA (cR m.b) az rfl)<|ai (ak rfl (di (aO (hl.a)) (aO (hm.b))))<|an 1 ?_
 refine ai (aA (cR m.a) az rfl)<|an 1<|ai (aA (cR l.b) az rfl)<|ai (ak rfl (di (aO (hm.a)) (aO (hl.b))))<|ai (ak rfl (fM (aO (Rz.mul (hl.a) (hm.b))) (aO (Rz.mul (hm.a) (hl.b)))))<|aV<|ar<|ag<|am ?_
 exact ao (bb az rfl ae)
theorem Mj {k d:Ci}(hk:GK k) (hd:GK d):Ok Tryz.prog 231 [.a (ci k),.a (ci d)] [.c (.b (q6 k d))]:=by
 refine Ok.fn Tryz.func231 19 [.tmp 4] rfl<|aa<|ab<|ag<|aa<|ab<|al 1<|aj (aA (cR k.x) az rfl)<|al 1<|aj (aA (cR d.x) az rfl)<|aj (ak rfl (ft (aO (hk.x)) (aO (hd.x))))<|al 1 ?_
 refine cm (bO rfl) (fun c1 hb1=>?_)
 cases c1
 ·refine ag<|am ?_
  rw[show q6 k d=false from by unfold q6 tu;rw[hb1];rfl]
  exact ao (aC ae)
 ·refine al 1<|aj (aA (cR k.y) az rfl)<|al 1<|aj (aA (cR d.y) az rfl)<|aj (ak rfl (ft (aO (hk.y)) (aO (hd.y))))<|ag<|am ?_
  rw[show q6 k d=(a7 k.y d.y==0) from by unfold q6 tu;rw[hb1];rfl]
  exact ao (aC ae)
theorem H6 {a1 b1 a2 b2 c:Rat}(ha1:Rz 200 a1) (hb1:Rz 200 b1) (ha2:Rz 200 a2) (hb2:Rz 200 b2) (hc:Rz 200 c) (hs:iD c=true):Ok Tryz.prog 106 [dR a1,dR b1,dR a2,dR b2,dR c] [.a (ay (gX a1 b1 a2 b2 c))]:=by
 have kt:Rz 60000 (rt c):=hc.rt.m_
 have k1:Rz 60000 (b1*rt c):=(hb1.mul hc.rt).m_
 have k2:Rz 60000 (b2*rt c):=(hb2.mul hc.rt).m_
 refine Ok.fn Tryz.func106 37 [.cell 10 37] rfl<|aa<|ab<|al 5<|aw (ah hJ rfl) rfl<|aq<|aa<|aa<|ab<|al 1 ?_
 refine aj (ak rfl (oa (by first|assumption|exact Rz.mono hc (by decide)))) ?_
 refine al 3<|aw (ah br rfl) rfl<|ag<|aa<|ab<|ag ?_
 refine au rfl (fun hc1=>?_) (fun hc1=>?_)
 ·refine Dw.weak (σ':=⟨37,[(5,.p 5 0),(6,.p 6 0),(7,.p 7 0),(8,.p 8 0),(9,.p 9 0),(10,.p 10 0),(11,.p 11 0)],[(5,31,cR a1),(6,31,cR b1),(7,31,cR a2),(8,31,cR b2),(9,31,cR c),(10,37,zP),(11,31,cR (rt c))]⟩) (aR ⟨rfl,rfl,rfl,rfl,rfl,rfl,rfl,trivial⟩ ⟨rfl,rfl,rfl,rfl,rfl,rfl,by rw[←tZ hs];rfl,trivial⟩ rfl) ?_
  refine aa<|aM 12 rfl rfl<|an 3 ?_
  refine ai (ak rfl (di (by first|assumption|exact Rz.mono hb1 (by decide)) (by first|assumption|exact Rz.mono (by assumption) (by decide)))) ?_
  refine ai (ak rfl (ll (by first|assumption|exact Rz.mono ha1 (by decide)) (by first|assumption|exact Rz.mono (Rz.mul hb1 (by assumption)) (by decide)))) ?_
  refine an 3 ?_
  refine ai (ak rfl (di (by first|assumption|exact Rz.mono hb2 (by decide)) (by first|assumption|exact Rz.mono (by assumption) (by decide)))) ?_
  refine ai (ak rfl (ll (by first|assumption|exact Rz.mono ha2 (by decide)) (by first|assumption|exact Rz.mono (Rz.mul hb2 (by assumption)) (by decide)))) ?_
  refine ai (aD (us:=(cR (a1+(b1*(rt c)))++cR (a2+(b2*(rt c))))) mo gB rfl rfl rfl) ?_
  refine ai (ak rfl (mj))<|aV<|ar<|ag<|am ?_
  rw[show gX a1 b1 a2 b2 c=⟨a1+b1*rt c,0,a2+b2*rt c,0,0⟩ from by unfold gX;rw[hs];rfl]
  exact ao (bb ca rfl ae)
 ·exact absurd hc1 (by rw[hs];decide)
theorem I3 {a1 b1 a2 b2 c:Rat}(_ha1:Rz 200 a1) (_hb1:Rz 200 b1) (_ha2:Rz 200 a2) (_hb2:Rz 200 b2) (hc:Rz 200 c) (hs:iD c=false):Ok Tryz.prog 106 [dR a1,dR b1,dR a2,dR b2,dR c] [.a (ay (gX a1 b1 a2 b2 c))]:=by
 refine Ok.fn Tryz.func106 37 [.cell 10 37] rfl<|aa<|ab<|al 5<|aw (ah hJ rfl) rfl<|aq<|aa<|aa<|ab<|al 1<|aj (ak rfl (oa (aO hc)))<|al 3<|aw (ah br rfl) rfl<|ag ?_
 refine aa<|ab<|ag ?_
 refine au rfl (fun hc1=>?_) (fun hc1=>?_)
 ·exact absurd hc1 (by rw[hs];decide)
 ·refine ap<|aa<|ab<|al 5<|aj (aD (us:=(cR a1++cR b1++cR a2++cR b2++cR c)) EE hJ rfl rfl rfl) ?_
  refine ag<|am ?_
  rw[show gX a1 b1 a2 b2 c=⟨a1,b1,a2,b2,c⟩ from by unfold gX;rw[hs];rfl]
  exact ao (bb ca rfl ae)
theorem BV {a1 b1 a2 b2 c:Rat}(ha1:Rz 200 a1) (hb1:Rz 200 b1) (ha2:Rz 200 a2) (hb2:Rz 200 b2) (hc:Rz 200 c):Ok Tryz.prog 106 [dR a1,dR b1,dR a2,dR b2,dR c] [.a (ay (gX a1 b1 a2 b2 c))]:=by
 cases hs:iD c with
 |true=>exact H6 ha1 hb1 ha2 hb2 hc hs
 |false=>exact I3 ha1 hb1 ha2 hb2 hc hs
theorem Pp {l:Ln}{k:Ci}(hl:GL l) (hk:GK k):Ok Tryz.prog 152 [.a (eQ l),.a (ci k)] [.c (.s ((fU l k).length) (bg ay (fU l k)))]:=by
 have h0:=hl.n
 have z1:Rz 60000 (mF l k.x k.y):=(lZ hl hk).m_
 have z2:Rz 60000 (gD l):=(lG hl).m_
 have z3:Rz 60000 (mF l k.x k.y/gD l):=(zS hl hk).m_
 have z4:Rz 60000 (l.b/gD l):=(yD hl).m_
 have z5:Rz 60000 (-l.a/gD l):=(yv hl).m_
 have z6:Rz 60000 l.a:=hl.a.m_
 have z7:Rz 60000 l.b:=hl.b.m_
 have z8:Rz 60000 (-l.a):=z6.neg
 have z9:Rz 60000 (mF l k.x k.y/gD l*l.a):=((zS hl hk).mul hl.a).m_
 have zA:Rz 60000 (mF l k.x k.y/gD l*l.b):=((zS hl hk).mul hl.b).m_
 have zB:Rz 60000 k.x:=hk.x.m_
 have zC:Rz 60000 k.y:=hk.y.m_
 refine Ok.fn Tryz.func152 84 [.tmp 4] rfl<|aa<|ab<|ag<|aa<|aM 7 rfl rfl<|an 2<|ai (ak rfl (N9 hl hk))<|an 1<|ai (ak rfl (MK hl))<|bh (ah br rfl) rfl<|bh (ah br rfl) rfl<|aV<|cS ?_
 refine ag<|aa<|aa<|ab<|al 1<|aj (ak rfl (cb))<|ag ?_
 refine au rfl (fun hc1=>?_) (fun hc1=>?_)
 ·refine aa<|ab<|ag<|am ?_
  rw[IF hc1]
  exact ao (aC ae)
 ·have g1: ¬a7 (mn l k) 0<0:=of_decide_eq_false hc1
  refine ap<|aa<|aM 9 rfl rfl<|an 2<|ai (aA (cR k.x) az rfl)<|an 1<|ai (aA (cR k.y) az rfl)<|ai (ak rfl (L9 hl hk))<|an 1 ?_
  refine ai (ak rfl (nd (by first|assumption|exact Rz.mono (by assumption) (by decide)) (by first|assumption|exact Rz.mono (by assumption) (by decide)) (by assumption))) ?_
  refine bh (ah br rfl) rfl<|aV<|bi<|ag<|aa<|aM 16 rfl rfl<|an 1<|ai (aA (cR k.x) az rfl)<|an 2<|ai (aA (cR l.a) az rfl) ?_
  refine ai (ak rfl (di (by first|assumption|exact Rz.mono (Rz.div (by assumption) (by assumption) (by assumption)) (by decide)) (by first|assumption|exact Rz.mono (by assumption) (by decide)))) ?_
  refine ai (ak rfl (fM (by first|assumption|exact Rz.mono (by assumption) (by decide)) (by first|assumption|exact Rz.mono (Rz.mul (Rz.div (by assumption) (by assumption) (by assumption)) (by assumption)) (by decide)))) ?_
  refine an 1<|ai (aA (cR k.y) az rfl)<|an 2<|ai (aA (cR l.b) az rfl) ?_
  refine ai (ak rfl (di (by first|assumption|exact Rz.mono (Rz.div (by assumption) (by assumption) (by assumption)) (by decide)) (by first|assumption|exact Rz.mono (by assumption) (by decide)))) ?_
  refine ai (ak rfl (fM (by first|assumption|exact Rz.mono (by assumption) (by decide)) (by first|assumption|exact Rz.mono (Rz.mul (Rz.div (by assumption) (by assumption) (by assumption)) (by assumption)) (by decide)))) ?_
  refine bh (ah br rfl) rfl<|bh (ah br rfl) rfl<|aV<|cS<|ag<|aa<|aa<|ab<|al 1<|aj (ak rfl (cb))<|ag ?_
  refine au rfl (fun hc2=>?_) (fun hc2=>?_)
  ·refine aa<|ab<|al 2<|aj (aD (us:=(cR (k.x-(((mF l k.x k.y)/(gD l))*l.a))++cR (k.y-(((mF l k.x k.y)/(gD l))*l.b)))) mo gB rfl rfl rfl) ?_
   refine aj (ak rfl (mj))<|aj (df (n:=1) (us:=(cR (k.x-(((mF l k.x k.y)/(gD l))*l.a))++cR 0++cR (k.y-(((mF l k.x k.y)/(gD l))*l.b))++cR 0++cR 0)) iF rfl rfl rfl (by decide) (by decide) rfl) ?_
   refine ag<|am ?_
   rw[Ih hc1 hc2]
   exact ao (aC ae)
  ·have g2: ¬a7 (mn l k) 0=0:=by simpa using hc2
   refine ap<|aa<|aM 11 rfl rfl<|an 1<|ai (aA (cR l.b) az rfl)<|an 1 ?_
   refine ai (ak rfl (nd (by first|assumption|exact Rz.mono (by assumption) (by decide)) (by first|assumption|exact Rz.mono (by assumption) (by decide)) (by assumption))) ?_
   refine an 1<|ai (aA (cR l.a) az rfl) ?_
   refine ai (ak rfl (p5 (by first|assumption|exact Rz.mono (by assumption) (by decide)))) ?_
   refine an 1 ?_
   refine ai (ak rfl (nd (by first|assumption|exact Rz.mono (Rz.neg (by assumption)) (by decide)) (by first|assumption|exact Rz.mono (by assumption) (by decide)) (by assumption))) ?_
   refine bh (ah br rfl) rfl<|bh (ah br rfl) rfl<|aV<|cS<|ag<|aa<|aM 16 rfl rfl<|an 2 ?_
   refine ai (ak rfl (p5 (by first|assumption|exact Rz.mono (Rz.div (by assumption) (by assumption) (by assumption)) (by decide)))) ?_
   refine an 2 ?_
   refine ai (ak rfl (p5 (by first|assumption|exact Rz.mono (Rz.div (Rz.neg (by assumption)) (by assumption) (by assumption)) (by decide)))) ?_
   refine an 1<|ai (ak rfl (BV ((ns hl hk).m_) ((yD hl).neg.m_) ((mN hl hk).m_) ((yv hl).neg.m_) ((r9 hl hk).m_)))<|an 5<|ai (ak rfl (BV ((ns hl hk).m_) ((yD hl).m_) ((mN hl hk).m_) ((yv hl).m_) ((r9 hl hk).m_)))<|bh (ah hJ rfl) rfl<|bh (ah hJ rfl) rfl<|aV<|cS<|ag<|aa<|aa<|ab<|al 2<|aj (ak rfl (nF (At hl hk g1 g2) (AW hl hk g1 g2))) ?_
   refine ag ?_
   refine au rfl (fun hc3=>?_) (fun hc3=>?_)
   ·--region 11
    refine ab<|ag<|aa<|ab<|al 2<|aj (df (n:=2) (us:=ay (Jv l k)++ay (Jr l k)) iF rfl rfl rfl (by decide) (by decide) rfl) ?_
    refine ag<|am ?_
    rw[Fr hc1 hc2 hc3]
    exact ao (aC ae)
   ·refine ap<|aa<|ab<|al 2<|aj (df (n:=2) (us:=ay (Jr l k)++ay (Jv l k)) iF rfl rfl rfl (by decide) (by decide) rfl) ?_
    refine ag<|am ?_
    rw[FS hc1 hc2 hc3]
    exact ao (aC ae)
theorem Sc {l m:Ln}(hl:GL l) (hm:GL m):Ok Tryz.prog 153 [.a (eQ l),.a (eQ m)] [.c (.s ((gO l m).length) (bg ay (gO l m))),.c (.i .i64 (kP l m))]:=by
 have z1:Rz 60000 (mv l m):=(wU hl hm).m_
 have z2:Rz 60000 (L7 l m):=(Gf hl hm).m_
 have z3:Rz 60000 (Kn l m):=(Fz hl hm).m_
 refine Ok.fn Tryz.func153 54 [.tmp 4,.tmp 5] rfl<|aa<|ab<|ag<|aa<|ab<|al 2<|aj (ak rfl (Q6 hl hm))<|aw (ah br rfl) rfl<|ag<|aa<|aM 24 rfl rfl<|an 1<|ai (aA (cR l.c) az rfl) ?_
 refine an 1<|ai (aA (cR m.b) az rfl)<|ai (ak rfl (di (aO (hl.c)) (aO (hm.b))))<|an 1<|ai (aA (cR m.c) az rfl)<|an 1<|ai (aA (cR l.b) az rfl)<|ai (ak rfl (di (aO (hm.c)) (aO (hl.b))))<|ai (ak rfl (fM (aO (Rz.mul (hl.c) (hm.b))) (aO (Rz.mul (hm.c) (hl.b)))))<|an 1<|ai (aA (cR l.a) az rfl)<|an 1<|ai (aA (cR m.c) az rfl)<|ai (ak rfl (di (aO (hl.a)) (aO (hm.c)))) ?_
 refine an 1<|ai (aA (cR m.a) az rfl)<|an 1<|ai (aA (cR l.c) az rfl)<|ai (ak rfl (di (aO (hm.a)) (aO (hl.c))))<|ai (ak rfl (fM (aO (Rz.mul (hl.a) (hm.c))) (aO (Rz.mul (hm.a) (hl.c)))))<|bh (ah br rfl) rfl<|bh (ah br rfl) rfl<|aV<|cS<|ag<|aa<|aa<|ab ?_
 refine al 1<|aj (ak rfl (cb))<|ag ?_
 refine au rfl (fun hc1=>?_) (fun hc1=>?_)
 ·have h0:mv l m≠0:=fun e=>absurd hc1 (by rw[f8.2 e];decide)
  refine aa<|aM 11 rfl rfl<|an 2<|ai (ak rfl (nd z2 z1 h0))<|an 2<|ai (ak rfl (nd z3 z1 h0))<|ai (aD (us:=(cR (L7 l m/mv l m)++cR (Kn l m/mv l m))) mo gB rfl rfl rfl) ?_
  refine ai (ak rfl (mj))<|ai (df (n:=1) (us:=(cR (L7 l m/mv l m)++cR 0++cR (Kn l m/mv l m)++cR 0++cR 0)) iF rfl rfl rfl (by decide) (by decide) rfl) ?_
  refine bJ<|ar<|aq<|am ?_
  rw[(yJ hc1).1,(yJ hc1).2]
  exact ao (aC (aC ae))
 ·refine ap<|aa<|aa<|ab<|al 1<|aj (ak rfl (cb))<|al 1 ?_
  refine cm (bO rfl) (fun c2 hb2=>?_)
  cases c2
  ·refine ag<|ba rfl<|ap<|aa<|ab<|ag<|am ?_
   rw[(ux hc1 hb2).1,(ux hc1 hb2).2]
   exact ao (aC (aC ae))
  ·refine al 1<|aj (ak rfl (cb))<|ag ?_
   refine au rfl (fun hc3=>?_) (fun hc3=>?_)
   ·refine aa<|ab<|ag<|am ?_
    rw[(vF hc1 hb2 hc3).1,(vF hc1 hb2 hc3).2]
    exact ao (aC (aC ae))
   ·refine ap<|aa<|ab<|ag<|am ?_
    rw[(uE hc1 hc3).1,(uE hc1 hc3).2]
    exact ao (aC (aC ae))
theorem QT {k d:Ci}(hk:GK k) (hd:GK d) (hn:q6 k d=false):Ok Tryz.prog 232 [.a (ci k),.a (ci d)] [.a (eQ (Kx k d)),.c (.i .i64 0)]:=by
 have zt:Rz 60000 (2:Rat):=A7.m_
 have f1:Rz 60000 (E2 k):=(rS hk).m_
 have f2:Rz 60000 (E2 d):=(rS hd).m_
 refine Ok.fn Tryz.func232 60 [.cell 4 33,.tmp 5] rfl<|aa<|ab<|al 2<|aw (ah rr rfl) rfl<|ag<|aa<|aa<|ab<|al 2<|aj (ak rfl (Bc (Mj hk hd) hn))<|aq<|ba rfl<|ap ?_
 refine aa<|ab<|aj (ak rfl (db (oe (by decide) (by decide)) (show((2:Int):Rat)=2 from rfl)))<|aw (ah br rfl) rfl<|ag<|aa<|aM 15 rfl rfl<|an 1<|ai (aA (cR k.x) az rfl)<|an 1<|ai (aA (cR k.x) az rfl)<|ai (ak rfl (di (aO (hk.x)) (aO (hk.x))))<|an 1<|ai (aA (cR k.y) az rfl) ?_
 refine an 1<|ai (aA (cR k.y) az rfl)<|ai (ak rfl (di (aO (hk.y)) (aO (hk.y))))<|ai (ak rfl (ll (aO (Rz.mul (hk.x) (hk.x))) (aO (Rz.mul (hk.y) (hk.y)))))<|an 1<|ai (aA (cR k.q) az rfl)<|ai (ak rfl (fM (aO (Rz.add (Rz.mul (hk.x) (hk.x)) (Rz.mul (hk.y) (hk.y)))) (aO (hk.q))))<|bh (ah br rfl) rfl<|aV<|bi<|ag<|aa<|aM 15 rfl rfl<|an 1 ?_
 refine ai (aA (cR d.x) az rfl)<|an 1<|ai (aA (cR d.x) az rfl)<|ai (ak rfl (di (aO (hd.x)) (aO (hd.x))))<|an 1<|ai (aA (cR d.y) az rfl)<|an 1<|ai (aA (cR d.y) az rfl)<|ai (ak rfl (di (aO (hd.y)) (aO (hd.y))))<|ai (ak rfl (ll (aO (Rz.mul (hd.x) (hd.x))) (aO (Rz.mul (hd.y) (hd.y)))))<|an 1<|ai (aA (cR d.q) az rfl)<|ai (ak rfl (fM (aO (Rz.add (Rz.mul (hd.x) (hd.x)) (Rz.mul (hd.y) (hd.y)))) (aO (hd.q))))<|bh (ah br rfl) rfl ?_
 refine aV<|bi<|ag<|aa<|aM 18 rfl rfl<|an 2<|ai (aA (cR d.x) az rfl)<|an 1<|ai (aA (cR k.x) az rfl)<|ai (ak rfl (fM (aO (hd.x)) (aO (hk.x))))<|ai (ak rfl (di (Qo) (aO (Rz.sub (hd.x) (hk.x)))))<|an 2<|ai (aA (cR d.y) az rfl)<|an 1 ?_
 refine ai (aA (cR k.y) az rfl)<|ai (ak rfl (fM (aO (hd.y)) (aO (hk.y))))<|ai (ak rfl (di (Qo) (aO (Rz.sub (hd.y) (hk.y)))))<|an 2<|ai (ak rfl (fM (aO (Rz.sub (Rz.add (Rz.mul (hd.x) (hd.x)) (Rz.mul (hd.y) (hd.y))) (hd.q))) (aO (Rz.sub (Rz.add (Rz.mul (hk.x) (hk.x)) (Rz.mul (hk.y) (hk.y))) (hk.q)))))<|ai (aD (us:=(cR (2*(d.x-k.x))++cR (2*(d.y-k.y))++cR ((((d.x*d.x)+(d.y*d.y))-d.q)-(((k.x*k.x)+(k.y*k.y))-k.q)))) KR rr rfl rfl rfl) ?_
 refine aV<|ar<|ag<|am ?_
 exact ao (bb tx rfl (aC ae))
theorem Rc {k d:Ci}(hk:GK k) (hd:GK d):Ok Tryz.prog 151 [.a (ci k),.a (ci d)] [.c (.s ((lC k d).length) (bg ay (lC k d))),.c (.i .i64 (rf k d))]:=by
 refine Ok.fn Tryz.func151 26 [.tmp 4,.tmp 5] rfl<|aa<|ab<|ag<|aa<|aa<|ab<|al 2<|aj (ak rfl (Mj hk hd))<|aq ?_
 refine au rfl (fun hc1=>?_) (fun hc1=>?_)
 ·refine aa<|aa<|ab<|al 1<|aj (aA (cR k.q) az rfl)<|al 1<|aj (aA (cR d.q) az rfl)<|aj (ak rfl (ft (aO (hk.q)) (aO (hd.q))))<|ag ?_
  refine au rfl (fun hc2=>?_) (fun hc2=>?_)
  ·refine aa<|ab<|ag<|am ?_
   rw[(Gz hc1 hc2).1,(Gz hc1 hc2).2]
   exact ao (aC (aC ae))
  ·refine ap<|aa<|ab<|ag<|am ?_
   rw[(IW hc1 hc2).1,(IW hc1 hc2).2]
   exact ao (aC (aC ae))
 ·refine ap<|aa<|ab<|al 2<|aj (ak rfl (QT hk hd hc1))<|al 3<|aw (ah rr rfl) rfl<|ag<|aa<|ab<|al 2<|aj (ak rfl (Pp (Ct hk hd hc1) hk))<|ag<|am ?_
  rw[(Fg hc1).1,(Fg hc1).2]
  exact ao (aC (aC ae))
theorem RN {k d:Ci}(hk:GK k) (hd:GK d):Ok Tryz.prog 149 [.a (ci k),.a (ci d)] [.c (.b (tF k d))]:=by
 refine Ok.fn Tryz.func149 27 [.tmp 4] rfl<|aa<|ab<|ag<|aa<|ab<|al 1<|aj (aA (cR k.x) az rfl)<|al 1<|aj (aA (cR d.x) az rfl)<|aj (ak rfl (ft (aO (hk.x)) (aO (hd.x))))<|al 1 ?_
 refine cm (bO rfl) (fun c1 hb1=>?_)
 cases c1
 ·refine ag<|am ?_
  rw[show tF k d=false from by unfold tF tu;rw[hb1];rfl]
  exact ao (aC ae)
 ·refine al 1<|aj (aA (cR k.y) az rfl)<|al 1<|aj (aA (cR d.y) az rfl)<|aj (ak rfl (ft (aO (hk.y)) (aO (hd.y))))<|al 2 ?_
  refine cm (bO rfl) (fun c2 hb2=>?_)
  cases c2
  ·refine ag<|am ?_
   rw[show tF k d=false from by unfold tF tu;rw[hb1,hb2];rfl]
   exact ao (aC ae)
  ·refine al 1<|aj (aA (cR k.q) az rfl)<|al 1<|aj (aA (cR d.q) az rfl)<|aj (ak rfl (ft (aO (hk.q)) (aO (hd.q))))<|ag<|am ?_
   rw[show tF k d=(a7 k.q d.q==0) from by unfold tF tu;rw[hb1,hb2];rfl]
   exact ao (aC ae)
theorem Sn {l m:Ln}(hl:GL l) (hm:GL m):Ok Tryz.prog 150 [.a (eQ l),.a (eQ m)] [.c (.b (s8 l m))]:=by
 refine Ok.fn Tryz.func150 45 [.tmp 4] rfl<|aa<|ab<|ag<|aa<|aM 41 rfl rfl<|an 1<|ai (aA (cR l.a) az rfl)<|an 1<|ai (aA (cR m.b) az rfl)<|ai (ak rfl (bZ (aO (hl.a)) (aO (hm.b))))<|an 1<|ai (aA (cR l.b) az rfl)<|an 1 ?_
 refine ai (aA (cR m.a) az rfl)<|ai (ak rfl (bZ (aO (hl.b)) (aO (hm.a))))<|ai (ak rfl (ft (aO (Rz.mul (hl.a) (hm.b))) (aO (Rz.mul (hl.b) (hm.a)))))<|an 1 ?_
 refine gJ (bO rfl) (fun c1 hb1=>?_)
 cases c1
 ·refine bJ<|ar<|aq<|am ?_
  rw[show s8 l m=false from by unfold s8 tu;rw[hb1];rfl]
  exact ao (aC ae)
 ·refine an 1<|ai (aA (cR l.a) az rfl)<|an 1<|ai (aA (cR m.c) az rfl)<|ai (ak rfl (bZ (aO (hl.a)) (aO (hm.c))))<|an 1<|ai (aA (cR l.c) az rfl)<|an 1<|ai (aA (cR m.a) az rfl)<|ai (ak rfl (bZ (aO (hl.c)) (aO (hm.a))))<|ai (ak rfl (ft (aO (Rz.mul (hl.a) (hm.c))) (aO (Rz.mul (hl.c) (hm.a)))))<|an 2 ?_
  refine gJ (bO rfl) (fun c2 hb2=>?_)
  cases c2
  ·refine bJ<|ar<|aq<|am ?_
   rw[show s8 l m=false from by unfold s8 tu;rw[hb1,hb2];rfl]
   exact ao (aC ae)
  ·refine an 1<|ai (aA (cR l.b) az rfl)<|an 1<|ai (aA (cR m.c) az rfl)<|ai (ak rfl (bZ (aO (hl.b)) (aO (hm.c))))<|an 1<|ai (aA (cR l.c) az rfl)<|an 1<|ai (aA (cR m.b) az rfl)<|ai (ak rfl (bZ (aO (hl.c)) (aO (hm.b))))<|ai (ak rfl (ft (aO (Rz.mul (hl.b) (hm.c))) (aO (Rz.mul (hl.c) (hm.b)))))<|bJ<|ar<|aq ?_
   refine am ?_
   rw[show s8 l m=(a7 (l.b*m.c) (l.c*m.b)==0) from by unfold s8 tu;rw[hb1,hb2];rfl]
   exact ao (aC ae)
theorem Hi {l:Ln}(hl:GL l) {f t:Pt}(_hf:GP f) (_ht:GP t) {m:Ln}(hm:GL m) {u v:Pt}(_hu:GP u) (_hv:GP v):Ok Tryz.prog 73 [.a (([.b false]++eQ l++dN++[.b false]++ay f++ay t)),.a (([.b false]++eQ m++dN++[.b false]++ay u++ay v))] [.c (.b (fy (Cv.seg l f t) (Cv.seg m u v)))]:=by
 refine Ok.fn Tryz.func73 22 [.tmp 4] rfl<|aa<|ab<|ag<|aa<|aa<|ab<|al 4<|aj (dH rfl rfl d9 rfl) ?_
 refine aq<|ba rfl<|ap<|aa<|aa<|ab<|ag<|ba rfl<|ap<|aa<|ab<|al 1<|aj (dO (eQ l) tx rfl (by kernel_rfl))<|al 1 ?_
 refine aj (dO (eQ m) tx rfl (by kernel_rfl))<|aj (ak rfl (Sn hl hm))<|ag<|am ?_
 exact ao (aC ae)
theorem K9 {l:Ln}(hl:GL l) {f t:Pt}(_hf:GP f) (_ht:GP t) {m:Ln}(hm:GL m) {u v:Pt}(_hu:GP u) (_hv:GP v):Ok Tryz.prog 74 [.a (([.b false]++eQ l++dN++[.b false]++ay f++ay t)),.a (([.b false]++eQ m++dN++[.b false]++ay u++ay v))] [.c (.s ((jK (Cv.seg l f t) (Cv.seg m u v)).length) (bg ay (jK (Cv.seg l f t) (Cv.seg m u v)))),.c (.i .i64 (zH (Cv.seg l f t) (Cv.seg m u v)))]:=by
 refine Ok.fn Tryz.func74 40 [.tmp 4,.tmp 5] rfl<|aa<|ab<|ag<|aa<|aa<|ab<|ag<|ba rfl<|ap<|aa<|aa<|ab<|ag ?_
 refine ba rfl<|ap<|aa<|aa<|ab<|ag<|ba rfl<|ap<|aa<|ab<|al 1<|aj (dO (eQ l) tx rfl (by kernel_rfl))<|al 1<|aj (dO (eQ m) tx rfl (by kernel_rfl)) ?_
 refine aj (ak rfl (Sc hl hm))<|ag<|am ?_
 exact ao (aC (aC ae))
theorem H7 {l:Ln}(_hl:GL l) {f t:Pt}(_hf:GP f) (_ht:GP t) {d:Ci}(_hd:GK d) {w2:Bool}{u v:Pt}(_hu:GP u) (_hv:GP v):Ok Tryz.prog 73 [.a (([.b false]++eQ l++dN++[.b false]++ay f++ay t)),.a (([.b true]++dN++ci d++[.b w2]++ay u++ay v))] [.c (.b (fy (Cv.seg l f t) (Cv.arc d w2 u v)))]:=by
 refine Ok.fn Tryz.func73 22 [.tmp 4] rfl<|aa<|ab<|ag<|aa<|aa<|ab<|al 4<|aj (dH rfl rfl d9 rfl) ?_
 refine aq<|bo rfl<|aa<|ab<|ag<|am ?_
 exact ao (aC ae)
theorem J2 {l:Ln}(hl:GL l) {f t:Pt}(_hf:GP f) (_ht:GP t) {d:Ci}(hd:GK d) {w2:Bool}{u v:Pt}(_hu:GP u) (_hv:GP v):Ok Tryz.prog 74 [.a (([.b false]++eQ l++dN++[.b false]++ay f++ay t)),.a (([.b true]++dN++ci d++[.b w2]++ay u++ay v))] [.c (.s ((jK (Cv.seg l f t) (Cv.arc d w2 u v)).length) (bg ay (jK (Cv.seg l f t) (Cv.arc d w2 u v)))),.c (.i .i64 (zH (Cv.seg l f t) (Cv.arc d w2 u v)))]:=by
 refine Ok.fn Tryz.func74 40 [.tmp 4,.tmp 5] rfl<|aa<|ab<|ag<|aa<|aa<|ab<|ag<|ba rfl<|ap<|aa<|aa<|ab<|ag ?_
 refine ba rfl<|ap<|aa<|aa<|ab<|ag<|bo rfl<|aa<|ab<|al 1<|aj (dO (eQ l) tx rfl (by kernel_rfl))<|al 1<|aj (dO (ci d) ou rfl (by kernel_rfl))<|aj (ak rfl (Pp hl hd)) ?_
 refine ag<|am ?_
 exact ao (aC (aC ae))
theorem Ft {k:Ci}(_hk:GK k) {w:Bool}{f t:Pt}(_hf:GP f) (_ht:GP t) {m:Ln}(_hm:GL m) {u v:Pt}(_hu:GP u) (_hv:GP v):Ok Tryz.prog 73 [.a (([.b true]++dN++ci k++[.b w]++ay f++ay t)),.a (([.b false]++eQ m++dN++[.b false]++ay u++ay v))] [.c (.b (fy (Cv.arc k w f t) (Cv.seg m u v)))]:=by
 refine Ok.fn Tryz.func73 22 [.tmp 4] rfl<|aa<|ab<|ag<|aa<|aa<|ab<|al 4<|aj (dH rfl rfl d9 rfl) ?_
 refine aq<|bo rfl<|aa<|ab<|ag<|am ?_
 exact ao (aC ae)
theorem Km {k:Ci}(hk:GK k) {w:Bool}{f t:Pt}(_hf:GP f) (_ht:GP t) {m:Ln}(hm:GL m) {u v:Pt}(_hu:GP u) (_hv:GP v):Ok Tryz.prog 74 [.a (([.b true]++dN++ci k++[.b w]++ay f++ay t)),.a (([.b false]++eQ m++dN++[.b false]++ay u++ay v))] [.c (.s ((jK (Cv.arc k w f t) (Cv.seg m u v)).length) (bg ay (jK (Cv.arc k w f t) (Cv.seg m u v)))),.c (.i .i64 (zH (Cv.arc k w f t) (Cv.seg m u v)))]:=by
 refine Ok.fn Tryz.func74 40 [.tmp 4,.tmp 5] rfl<|aa<|ab<|ag<|aa<|aa<|ab<|ag<|ba rfl<|ap<|aa<|aa<|ab<|ag ?_
 refine bo rfl<|aa<|ab<|al 1<|aj (dO (eQ m) tx rfl (by kernel_rfl))<|al 1<|aj (dO (ci k) ou rfl (by kernel_rfl))<|aj (ak rfl (Pp hm hk))<|ag<|am ?_
 exact ao (aC (aC ae))
theorem Fs {k:Ci}(hk:GK k) {w:Bool}{f t:Pt}(_hf:GP f) (_ht:GP t) {d:Ci}(hd:GK d) {w2:Bool}{u v:Pt}(_hu:GP u) (_hv:GP v):Ok Tryz.prog 73 [.a (([.b true]++dN++ci k++[.b w]++ay f++ay t)),.a (([.b true]++dN++ci d++[.b w2]++ay u++ay v))] [.c (.b (fy (Cv.arc k w f t) (Cv.arc d w2 u v)))]:=by
 refine Ok.fn Tryz.func73 22 [.tmp 4] rfl<|aa<|ab<|ag<|aa<|aa<|ab<|al 4<|aj (dH rfl rfl d9 rfl) ?_
 refine aq<|ba rfl<|ap<|aa<|aa<|ab<|ag<|bo rfl<|aa<|ab<|al 1<|aj (dO (ci k) ou rfl (by kernel_rfl))<|al 1<|aj (dO (ci d) ou rfl (by kernel_rfl)) ?_
 refine aj (ak rfl (RN hk hd))<|ag<|am ?_
 exact ao (aC ae)
theorem Kh {k:Ci}(hk:GK k) {w:Bool}{f t:Pt}(_hf:GP f) (_ht:GP t) {d:Ci}(hd:GK d) {w2:Bool}{u v:Pt}(_hu:GP u) (_hv:GP v):Ok Tryz.prog 74 [.a (([.b true]++dN++ci k++[.b w]++ay f++ay t)),.a (([.b true]++dN++ci d++[.b w2]++ay u++ay v))] [.c (.s ((jK (Cv.arc k w f t) (Cv.arc d w2 u v)).length) (bg ay (jK (Cv.arc k w f t) (Cv.arc d w2 u v)))),.c (.i .i64 (zH (Cv.arc k w f t) (Cv.arc d w2 u v)))]:=by
 refine Ok.fn Tryz.func74 40 [.tmp 4,.tmp 5] rfl<|aa<|ab<|ag<|aa<|aa<|ab<|ag<|bo rfl<|aa<|ab<|al 1<|aj (dO (ci k) ou rfl (by kernel_rfl))<|al 1 ?_
 refine aj (dO (ci d) ou rfl (by kernel_rfl))<|aj (ak rfl (Rc hk hd))<|ag<|am ?_
 exact ao (aC (aC ae))
end Go.Proofs.YtacopbfkmnpfgaaGreat
