/-Monotone curves:program and reference. -/
import Derived.Test.YtkmdgigkbhmilaaGreatNbP
namespace Go.Proofs.YtkmdgigkbhmilaaGreat
open Go Go.RowKit
theorem Jk {k:Ci}(hk:GK k) {p:Pt}(hp:GP p):Ok Tryz.prog 308 [.a (ca k),.a (au p)] [.c (.i .i64 (sR k p))]:=by
 refine Ok.fn Tryz.func308 25 [.tmp 4] rfl<|aa<|ab<|ag<|aa<|aR 6 rfl rfl<|ap 1<|aj (am rfl (nw))<|ap 1<|aj (aF (cR k.y) aD rfl)<|aj (am rfl (VX hp (hk.y.m_)))<|bk<|az<|ar ?_
 refine aa<|aa<|aR 14 rfl rfl<|ap 2 ?_
 refine fb (bN rfl) (fun c1 hb1=>?_)
 cases c1
 ·refine ap 2 ?_
  refine fb (bN rfl) (fun c2 hb2=>?_)
  cases c2
  ·refine bk<|az<|ar<|aP rfl<|ao<|aa<|ab<|ag<|an ?_
   rw[RF hb1 hb2]
   exact aq (aE ae)
  ·refine ap 1<|aj (am rfl (jw))<|ap 1<|aj (aF (cR k.x) aD rfl)<|aj (am rfl (V1 hp (hk.x.m_)))<|bk<|az<|ar ?_
   refine aw rfl (fun hc3=>?_) (fun hc3=>?_)
   ·refine aa<|ab<|ag<|an ?_
    rw[Ub hb1 hb2 hc3]
    exact aq (aE ae)
   ·refine ao<|aa<|ab<|ag<|an ?_
    rw[Ti hb1 hb2 hc3]
    exact aq (aE ae)
 ·refine bk<|az<|ar<|bg rfl<|aa<|ab<|ag<|an ?_
  rw[Tw hb1]
  exact aq (aE ae)
theorem AJ {k:Ci}(hk:GK k) {p q:Pt}(hp:GP p) (hq:GP q):Ok Tryz.prog 304 [.a (ca k),.a (au p),.a (au q)] [.c (.i .i64 (mk k p q))]:=by
 have b1:=Iv k p
 have b2:=Iv k q
 have b3:=fC p q
 refine Ok.fn Tryz.func304 32 [.tmp 6] rfl<|aa<|ab<|ag<|aa<|aR 8 rfl rfl<|ap 2<|aj (am rfl (Jk hk hp))<|ap 2<|aj (am rfl (Jk hk hq))<|bk<|az<|ar<|aa ?_
 refine aa<|ab<|ag ?_
 refine aw rfl (fun hc1=>?_) (fun hc1=>?_)
 ·refine aa<|ab<|al 2<|ah (aK (r:=(sR k p)-(sR k q)) rfl rfl (bV (by omega) (by omega)) rfl) ?_
  refine ag<|an ?_
  rw[RI (k:=k) (p:=p) (q:=q) (by simpa using hc1)]
  exact aq (aE ae)
 ·refine ao<|aa<|aR 6 rfl rfl<|ap 1<|aj (am rfl (jw))<|ap 1<|aj (am rfl (jw))<|aj (am rfl (Vg hp hq))<|bk<|az<|ar<|aa<|aa<|ab ?_
  refine ag ?_
  refine aw rfl (fun hc2=>?_) (fun hc2=>?_)
  ·refine aa<|ab<|al 1<|ah (dD (r:= -cx p q) rfl (mN b3) rfl) ?_
   refine ag<|an ?_
   rw[Mn (k:=k) (p:=p) (q:=q) (by simpa using hc1) hc2]
   exact aq (aE ae)
  ·refine ao<|aa<|ab<|ag<|an ?_
   rw[N7 (k:=k) (p:=p) (q:=q) (by simpa using hc1) hc2]
   exact aq (aE ae)
theorem ER {k:Ci}(hk:GK k) {f p:Pt}(hf:GP f) (hp:GP p):Ok Tryz.prog 302 [.a (ca k),.a (au f),.a (au p)] [.c (.i .i64 (n5 k f p))]:=by
 refine Ok.fn Tryz.func302 18 [.tmp 6] rfl<|aa<|ab<|ag<|aa<|ab<|al 3<|ah (am rfl (AJ hk hp hf))<|ag<|aa<|aJ<|aa<|ab<|ag ?_
 refine aw rfl (fun hc1=>?_) (fun hc1=>?_)
 ·refine aa<|ab<|ag<|an ?_
  rw[Q4 hc1]
  exact aq (aE ae)
 ·refine aa<|ab<|ag ?_
  refine aw rfl (fun hc2=>?_) (fun hc2=>?_)
  ·refine aa<|ab<|ag<|an ?_
   rw[Q8 hc1 hc2]
   exact aq (aE ae)
  ·refine ao<|aa<|ab<|ag<|an ?_
   rw[RZ hc1 hc2]
   exact aq (aE ae)
theorem JH {n:Int}:Ok Tryz.prog 303 [.c (.i .i64 n)] [.c (.i .i64 (P5 n))]:=by
 refine Ok.fn Tryz.func303 6 [.tmp 2] rfl<|aa<|ab<|ag<|aa<|ab<|al 1<|ah (zE rfl rfl rfl) ?_
 refine ah (FP rfl rfl rfl) ?_
 refine ag<|an ?_
 rw[show P5 n=min 1 (max (-1) n) from rfl]
 exact aq (aE ae)
theorem Ak {k:Ci}(hk:GK k) {f p q:Pt}(hf:GP f) (hp:GP p) (hq:GP q):Ok Tryz.prog 291 [.a (ca k),.a (au f),.a (au p),.a (au q)] [.c (.i .i64 (xb k f p q))]:=by
 have b1:=K6 k f p
 have b2:=K6 k f q
 refine Ok.fn Tryz.func291 31 [.tmp 8] rfl<|aa<|ab<|ag<|aa<|aa<|aR 10 rfl rfl<|ap 3<|aj (am rfl (ER hk hf hp))<|ap 3<|aj (am rfl (ER hk hf hq))<|bk<|az<|ar ?_
 refine aa<|ab<|ag ?_
 refine aw rfl (fun hc1=>?_) (fun hc1=>?_)
 ·refine aa<|ab<|al 2<|ah (aK (r:=(n5 k f p)-(n5 k f q)) rfl rfl (bV (by omega) (by omega)) rfl) ?_
  refine ah (am rfl (JH))<|ag<|an ?_
  rw[S2 (k:=k) (f:=f) (p:=p) (q:=q) (by simpa using hc1)]
  exact aq (aE ae)
 ·refine ao<|aa<|ab<|al 3<|ah (am rfl (AJ hk hp hq))<|ah (am rfl (JH))<|ag<|an ?_
  rw[SH (k:=k) (f:=f) (p:=p) (q:=q) (by simpa using hc1)]
  exact aq (aE ae)
theorem Lm {k:Ci}(_hk:GK k) {w:Bool}{f t:Pt}(_hf:GP f) (_ht:GP t):Ok Tryz.prog 104 [.a (([.b true]++cS++ca k++[.b w]++au f++au t))] [.a (([.b true]++cS++ca k++[.b (!w)]++au t++au f))]:=by
 refine Ok.fn Tryz.func104 18 [.cell 2 48] rfl<|aa<|ab<|al 1<|aC (ai eo rfl) rfl<|ar<|aa<|ab<|al 1<|ah (cD (au t) bo rfl (by kernel_rfl))<|al 1<|ah (cD (au f) bo rfl (by kernel_rfl))<|al 1<|bL (bm (us:=([.b true]++cS++ca k++[.b w]++au t++au t)) bo rfl rfl rfl rfl (Nat.le_of_ble_eq_true (by kernel_rfl)) (by kernel_rfl) rfl) ?_
 refine al 1<|bL (bm (us:=([.b true]++cS++ca k++[.b w]++au t++au f)) bo rfl rfl rfl rfl (Nat.le_of_ble_eq_true (by kernel_rfl)) (by kernel_rfl) rfl) ?_
 refine ar<|aa<|ab<|al 8<|bL (bm (us:=([.b true]++cS++ca k++[.b (!w)]++au t++au f)) xf rfl rfl rfl rfl (Nat.le_of_ble_eq_true (by kernel_rfl)) (by kernel_rfl) rfl) ?_
 refine ar<|aa<|ab<|ag<|an ?_
 exact aq (fr (us:=([.b true]++cS++ca k++[.b (!w)]++au t++au f)) bd rfl rfl (by kernel_rfl) (by kernel_rfl) ae)
theorem Qs {l:Ln}(_hl:GL l) {f t:Pt}(_hf:GP f) (_ht:GP t):Ok Tryz.prog 104 [.a (([.b false]++dV l++cS++[.b false]++au f++au t))] [.a (([.b false]++dV l++cS++[.b false]++au t++au f))]:=by
 refine Ok.fn Tryz.func104 18 [.cell 2 48] rfl<|aa<|ab<|al 1<|aC (ai eo rfl) rfl<|ar<|aa<|ab<|al 1<|ah (cD (au t) bo rfl (by kernel_rfl))<|al 1<|ah (cD (au f) bo rfl (by kernel_rfl))<|al 1<|bL (bm (us:=([.b false]++dV l++cS++[.b false]++au t++au t)) bo rfl rfl rfl rfl (Nat.le_of_ble_eq_true (by kernel_rfl)) (by kernel_rfl) rfl) ?_
 refine al 1<|bL (bm (us:=([.b false]++dV l++cS++[.b false]++au t++au f)) bo rfl rfl rfl rfl (Nat.le_of_ble_eq_true (by kernel_rfl)) (by kernel_rfl) rfl) ?_
 refine ar<|aa<|ab<|al 8<|bL (bm (us:=([.b false]++dV l++cS++[.b false]++au t++au f)) xf rfl rfl rfl rfl (Nat.le_of_ble_eq_true (by kernel_rfl)) (by kernel_rfl) rfl) ?_
 refine ar<|aa<|ab<|ag<|an ?_
 exact aq (fr (us:=([.b false]++dV l++cS++[.b false]++au t++au f)) bd rfl rfl (by kernel_rfl) (by kernel_rfl) ae)
theorem Nd {k:Ci}(hk:GK k) {f t:Pt}(hf:GP f) (ht:GP t):Ok Tryz.prog 290 [.a (([.b true]++cS++ca k++[.b true]++au f++au t))] [.a (([.b true]++cS++ca k++[.b false]++au t++au f))]:=by
 refine Ok.fn Tryz.func290 8 [.cell 2 48] rfl<|aa<|ab<|al 1<|aC (ai eo rfl) rfl<|ar<|aa<|aa<|ab<|ag<|bg rfl<|aa<|ab<|al 1 ?_
 refine ah (am rfl (Lm (w:=true) hk hf ht))<|ag<|an ?_
 exact aq (fr (us:=([.b true]++cS++ca k++[.b false]++au t++au f)) bd rfl rfl (by kernel_rfl) (by kernel_rfl) ae)
theorem Mf {k:Ci}(_hk:GK k) {f t:Pt}(_hf:GP f) (_ht:GP t):Ok Tryz.prog 290 [.a (([.b true]++cS++ca k++[.b false]++au f++au t))] [.a (([.b true]++cS++ca k++[.b false]++au f++au t))]:=by
 refine Ok.fn Tryz.func290 8 [.cell 2 48] rfl<|aa<|ab<|al 1<|aC (ai eo rfl) rfl<|ar<|aa<|aa<|ab<|ag<|aP rfl<|ao<|aa<|ab ?_
 refine ag<|an ?_
 exact aq (fr (us:=([.b true]++cS++ca k++[.b false]++au f++au t)) bd rfl rfl (by kernel_rfl) (by kernel_rfl) ae)
theorem PQ {k:Ci}(hk:GK k) {w:Bool}{f t:Pt}(_hf:GP f) (_ht:GP t) {p:Pt}(hp:GP p):Ok Tryz.prog 246 [.a (([.b true]++cS++ca k++[.b w]++au f++au t)),.a (au p)] [.c (.b ((Cv.arc k w f t).supp p))]:=by
 refine Ok.fn Tryz.func246 17 [.tmp 4] rfl<|aa<|ab<|ag<|aa<|aa<|ab<|ag<|bg rfl<|aa<|ab<|al 1<|ah (cD (ca k) mJ rfl (by kernel_rfl))<|al 1 ?_
 refine ah (am rfl (I3 hk hp))<|ag<|an ?_
 exact aq (aE ae)
theorem Eq {k:Ci}(hk:GK k) (h0:0<k.q) {f t p:Pt}(of:OnK k f) (ot:OnK k t) (op:OnK k p):Ok Tryz.prog 247 [.a (([.b true]++cS++ca k++[.b true]++au f++au t)),.a (au p)] [.c (.b (decide ((Cv.arc k true f t).ord f p≤0)&&decide ((Cv.arc k true f t).ord p t≤0)))]:=by
 have hf:=of.1
 have ht:=ot.1
 have hp:=op.1
 have e1:(decide ((Cv.arc k true f t).ord f p≤0)&&decide ((Cv.arc k true f t).ord p t≤0))=decide (xb k t p f≤0):=AU h0 of ot op
 refine Ok.fn Tryz.func247 41 [.tmp 4] rfl<|aa<|ab<|ag<|aa<|aa<|ab<|ag<|aP rfl<|ao<|aa<|ab<|al 1<|ah (am rfl (Nd hk hf ht)) ?_
 refine aC (ai eo rfl) rfl<|ag<|aa<|ab<|al 1<|ah (cD (ca k) mJ rfl (by kernel_rfl))<|al 1<|ah (cD (au t) bo rfl (by kernel_rfl))<|al 2<|ah (cD (au f) bo rfl (by kernel_rfl))<|ah (am rfl (Ak hk ht hp hf))<|ag<|an ?_
 rw[e1]
 exact aq (aE ae)
theorem Cr {k:Ci}(hk:GK k) (_h0:0<k.q) {f t p:Pt}(of:OnK k f) (ot:OnK k t) (op:OnK k p):Ok Tryz.prog 247 [.a (([.b true]++cS++ca k++[.b false]++au f++au t)),.a (au p)] [.c (.b (decide ((Cv.arc k false f t).ord f p≤0)&&decide ((Cv.arc k false f t).ord p t≤0)))]:=by
 have hf:=of.1
 have ht:=ot.1
 have hp:=op.1
 have e1:(decide ((Cv.arc k false f t).ord f p≤0)&&decide ((Cv.arc k false f t).ord p t≤0))=decide (xb k f p t≤0):=wN hf ht hp
 refine Ok.fn Tryz.func247 41 [.tmp 4] rfl<|aa<|ab<|ag<|aa<|aa<|ab<|ag<|aP rfl<|ao<|aa<|ab<|al 1<|ah (am rfl (Mf hk hf ht)) ?_
 refine aC (ai eo rfl) rfl<|ag<|aa<|ab<|al 1<|ah (cD (ca k) mJ rfl (by kernel_rfl))<|al 1<|ah (cD (au f) bo rfl (by kernel_rfl))<|al 2<|ah (cD (au t) bo rfl (by kernel_rfl))<|ah (am rfl (Ak hk hf hp ht))<|ag<|an ?_
 rw[e1]
 exact aq (aE ae)
theorem TL {w:Bool}{k:Ci}(hk:GK k) (h0:0<k.q) {f t p:Pt}(of:OnK k f) (ot:OnK k t) (op:OnK k p):Ok Tryz.prog 247 [.a (([.b true]++cS++ca k++[.b w]++au f++au t)),.a (au p)] [.c (.b (decide ((Cv.arc k w f t).ord f p≤0)&&decide ((Cv.arc k w f t).ord p t≤0)))]:=by
 cases w with
 |true=>exact Eq hk h0 of ot op
 |false=>exact Cr hk h0 of ot op
theorem ON {w:Bool}{k:Ci}(hk:GK k) (h0:0<k.q) {f t p:Pt}(of:OnK k f) (ot:OnK k t) (hp:GP p):Ok Tryz.prog 181 [.a (([.b true]++cS++ca k++[.b w]++au f++au t)),.a (au p)] [.c (.b ((Cv.arc k w f t).on p))]:=by
 have hf:=of.1
 have ht:=ot.1
 refine Ok.fn Tryz.func181 13 [.tmp 4] rfl<|aa<|ab<|ag<|aa<|ab<|al 2<|ah (am rfl (PQ hk hf ht hp)) ?_
 refine cg (bN rfl) (fun c1 hb1=>?_)
 cases c1
 ·refine ag<|an ?_
  rw[RW (c:=(Cv.arc k w f t)) (p:=p) hb1]
  exact aq (aE ae)
 ·have op:OnK k p:=⟨hp,cb.1 hb1⟩
  refine al 2<|ah (am rfl (TL hk h0 of ot op))<|ag<|an ?_
  rw[yy (c:=(Cv.arc k w f t)) (p:=p) hb1]
  exact aq (aE ae)
theorem J9 {w:Bool}{k:Ci}(hk:GK k) (h0:0<k.q) {f t p:Pt}(of:OnK k f) (ot:OnK k t) (hp:GP p):Ok Tryz.prog 102 [.a (([.b true]++cS++ca k++[.b w]++au f++au t)),.a (au p)] [.c (.b ((Cv.arc k w f t).inner p))]:=by
 have hf:=of.1
 have ht:=ot.1
 refine Ok.fn Tryz.func102 22 [.tmp 4] rfl<|aa<|ab<|ag<|aa<|ab<|al 2<|ah (am rfl (ON hk h0 of ot hp)) ?_
 refine cg (bN rfl) (fun c1 hb1=>?_)
 cases c1
 ·refine ag<|an ?_
  rw[Px (c:=(Cv.arc k w f t)) (p:=p) hb1]
  exact aq (aE ae)
 ·refine al 1<|ah (cD (au f) bo rfl (by kernel_rfl))<|al 1<|ah (am rfl (ro hf hp))<|al 2 ?_
  refine cg (bN rfl) (fun c2 hb2=>?_)
  cases c2
  ·refine ag<|an ?_
   rw[KN (c:=(Cv.arc k w f t)) (p:=p) hb1 hb2]
   exact aq (aE ae)
  ·refine al 1<|ah (cD (au t) bo rfl (by kernel_rfl))<|al 1<|ah (am rfl (ro ht hp))<|ag<|an ?_
   rw[LQ (c:=(Cv.arc k w f t)) (p:=p) hb1 hb2]
   exact aq (aE ae)
theorem zT {k:Ci}(hk:GK k) {w:Bool}{f t:Pt}(hf:GP f) (ht:GP t) {p:Pt}(hp:GP p):Ok Tryz.prog 108 [.a (([.b true]++cS++ca k++[.b w]++au f++au t)),.a (au p)] [.c (.b ((Cv.arc k w f t).inner p))]:=by
 refine Ok.fn Tryz.func108 22 [.tmp 4] rfl<|aa<|ab<|ag<|aa<|ab<|al 2<|ah (am rfl (O4 hk hf ht hp)) ?_
 refine cg (bN rfl) (fun c1 hb1=>?_)
 cases c1
 ·refine ag<|an ?_
  rw[Px (c:=(Cv.arc k w f t)) (p:=p) hb1]
  exact aq (aE ae)
 ·refine al 1<|ah (cD (au f) bo rfl (by kernel_rfl))<|al 1<|ah (am rfl (vD hf hp))<|al 2 ?_
  refine cg (bN rfl) (fun c2 hb2=>?_)
  cases c2
  ·refine ag<|an ?_
   rw[KN (c:=(Cv.arc k w f t)) (p:=p) hb1 hb2]
   exact aq (aE ae)
  ·refine al 1<|ah (cD (au t) bo rfl (by kernel_rfl))<|al 1<|ah (am rfl (vD ht hp))<|ag<|an ?_
   rw[LQ (c:=(Cv.arc k w f t)) (p:=p) hb1 hb2]
   exact aq (aE ae)
theorem yT {l:Ln}(_hl:GL l) {f t:Pt}(hf:GP f) (ht:GP t):Ok Tryz.prog 31 [.a (([.b false]++dV l++cS++[.b false]++au f++au t))] [.c (.b ((Cv.seg l f t).vert))]:=by
 refine Ok.fn Tryz.func31 15 [.tmp 2] rfl<|aa<|ab<|ag<|aa<|aR 13 rfl rfl<|ap 5<|aj (cD (au f) bo rfl (by kernel_rfl))<|aj (am rfl (jw))<|ap 1<|aj (cD (au t) bo rfl (by kernel_rfl))<|aj (am rfl (jw))<|aj (am rfl (Wc hf ht))<|bk ?_
 refine az<|ar<|an ?_
 exact aq (aE ae)
theorem uG {k:Ci}(_hk:GK k) {w:Bool}{f t:Pt}(_hf:GP f) (_ht:GP t):Ok Tryz.prog 31 [.a (([.b true]++cS++ca k++[.b w]++au f++au t))] [.c (.b ((Cv.arc k w f t).vert))]:=by
 refine Ok.fn Tryz.func31 15 [.tmp 2] rfl<|aa<|ab<|ag<|aa<|aR 13 rfl rfl<|bk<|az<|ar<|an ?_
 exact aq (aE ae)
theorem V7 {p q:Pt}(hp:GP p) (hq:GP q):Ok Tryz.prog 19 [.a ((cR p.a1++cR p.b1++cR (zc p.b1 p.c))),.a ((cR q.a1++cR q.b1++cR (zc q.b1 q.c)))] [.c (.b (cx p q==0))]:=by
 refine Ok.fn Tryz.func19 9 [.tmp 4] rfl<|aa<|ab<|ag<|aa<|ab<|al 2<|ah (am rfl (Tr hp hq))<|ag<|an ?_
 exact aq (aE ae)
theorem se {l:Ln}(_hl:GL l) {f t:Pt}(hf:GP f) (ht:GP t):Ok Tryz.prog 59 [.a (([.b false]++dV l++cS++[.b false]++au f++au t))] [.c (.b ((Cv.seg l f t).vert))]:=by
 refine Ok.fn Tryz.func59 15 [.tmp 2] rfl<|aa<|ab<|ag<|aa<|aR 13 rfl rfl<|ap 5<|aj (cD (au f) bo rfl (by kernel_rfl))<|aj (am rfl (i4))<|ap 1<|aj (cD (au t) bo rfl (by kernel_rfl))<|aj (am rfl (i4))<|aj (am rfl (V7 hf ht))<|bk ?_
 refine az<|ar<|an ?_
 exact aq (aE ae)
theorem qp {k:Ci}(_hk:GK k) {w:Bool}{f t:Pt}(_hf:GP f) (_ht:GP t):Ok Tryz.prog 59 [.a (([.b true]++cS++ca k++[.b w]++au f++au t))] [.c (.b ((Cv.arc k w f t).vert))]:=by
 refine Ok.fn Tryz.func59 15 [.tmp 2] rfl<|aa<|ab<|ag<|aa<|aR 13 rfl rfl<|bk<|az<|ar<|an ?_
 exact aq (aE ae)
theorem zl {c:Cv}(hc:CvV c):Ok Tryz.prog 38 [.a (aB c)] [.a (aB c.rev)]:=by
 cases c with
 |seg l f t=>exact Ii hc.g.1 hc.g.2.1 hc.g.2.2
 |arc k w f t=>exact Lb hc.g.1 hc.g.2.1 hc.g.2.2
inductive Slp where
 |vt
 |st (s:Int)
 |vl (a b c:Rat)
def kF:Slp→List CellD
 | .vt=>[.i .i64 2]++cS
 | .st s=>[.i .i64 s]++cS
 | .vl a b c=>[.i .i64 0]++(cR a++cR b++cR c)
def Slp.n:Slp→Int
 | .vt=>2
 | .st s=>s
 | .vl _ _ _=>0
def Slp.cl:Slp→List CellD
 | .vl a b c=>cR a++cR b++cR c
 |_=>cS
theorem sK (s:Slp):s.cl.length=12:=by cases s<;>rfl
theorem jf (s:Slp):(kF s).length=13:=by cases s<;>rfl
theorem fi (s:Slp):(kF s)[0]? =some (.i .i64 s.n):=by cases s<;>rfl
theorem tr (s:Slp):((kF s).drop 1).take 12=s.cl:=by cases s<;>rfl
theorem xG (s:Slp):List.take 13 (List.drop 0 (kF s))=kF s:=by rw[List.drop_zero,←jf s];exact List.take_length
section
variable (k:Ci) (p:Pt)
def nf:Rat:=qV (p.a2-k.y) p.b2 (zc p.b2 p.c)
def nG:Rat:= -(p.a1-k.x)*((p.a2-k.y)*nf k p)+ -p.b1*(-p.b2*nf k p)*p.c
def gF:Rat:= -(p.a1-k.x)*(-p.b2*nf k p)+ -p.b1*((p.a2-k.y)*nf k p)
end
def Cv.slp:Cv→Pt→Slp
 | .seg l _ _,_=>if l.b=0 then .vt else .vl (-l.a/l.b) 0 0
 | .arc k w _ _,p=>if fT p k.y=0 then .st (if w then 1 else-1) else .vl (nG k p) (gF k p) (zc (gF k p) p.c)
def rk:Slp→Int→Int
 | .vt,s=>2*s
 | .st n,_=>n
 | .vl _ _ _,_=>0
def Cv.bnd:Cv→Int
 | .seg _ _ _=>0
 | .arc _ w _ _=>if w then-1 else 1
def Cv.qq:Cv→Rat
 | .seg _ _ _=>0
 | .arc k _ _ _=>k.q
def i6 (c d:Cv):Int:=if c.bnd<d.bnd then-1 else if c.bnd>d.bnd then 1 else-c.bnd*aV c.qq d.qq
def Slp.vcmp:Slp→Slp→Int
 | .vl a b c,.vl x y z=>iX (a-x) b (-y) 0 c z
 |_,_=>0
def o6 (c d:Cv) (s t:Slp) (side:Int):Int:=
 if rk s side<rk t side then-1 else if rk s side>rk t side then 1 else
 match s with
 | .vt=>0
 | .st n=>n*aV c.qq d.qq
 | .vl _ _ _=>if s.vcmp t=0 then i6 c d else side*s.vcmp t
def sT (c d:Cv):Int:=if cP c.p d.p=0 then 0 else 1
def jl (c d:Cv):Int:=if cP c.p d.p=0 then o6 c d (c.slp c.p) (d.slp d.p) 1 else 0
def dK (c d:Cv):Int:=if cP c.p d.p≠0 then cP c.p d.p else if jl c d≠0 then jl c d else cP c.q d.q
theorem QV {x y z:Rat}(hz:0≤z) (hv:y≠0→0<z):sE x y z=bR (dX x y z):=by
 have hb: ∀ {w:Rat},0<w→aV w 0=1:=fun h=>by unfold aV;rw[if_neg (by grind),if_pos h]
 rw[←fK hz]
 unfold sE cm ll
 by_cases hy:y=0
 ·subst hy
  rw[eG,if_pos (.inl rfl),Int.zero_mul,if_pos (.inl rfl)]
 ·have hy0:aV y 0≠0:=fun e=>hy (fu.1 e)
  rw[hb (hv hy),Int.mul_one]
  by_cases h1:aV y 0=0∨aV x 0=aV y 0
  ·rw[if_pos h1,if_pos h1]
  ·rw[if_neg h1,if_neg h1,mw]
theorem PW {a b c:Rat}(h:b≠0→go c=false) (h0:b=0→a≠0):a*a-b*b*c≠0:=by
 intro e
 by_cases hb:b=0
 ·refine h0 hb (KA ?_)
  rw[hb] at e;grind
 ·have h1:=h hb
  have hbb:b*b≠0:=fun g=>by rcases Rat.mul_eq_zero.1 g with g|g<;>exact hb g
  have e2:c=(a/b)*(a/b):=by
   have e3:a/b*b=a:=Rat.div_mul_cancel hb
   have e4:(c-a/b*(a/b))*(b*b)=0:=by
    generalize a/b=q at*
    grind
   rcases Rat.mul_eq_zero.1 e4 with g|g
   ·grind
   ·exact absurd g hbb
  rw[e2,KZ] at h1
  exact absurd h1 (by decide)
theorem Ha {p:Pt}(h:GP p):(p.b1≠0→0<p.c∧go p.c=false)∧(p.b2≠0→0<p.c∧go p.c=false):=by
 have hv:=h.v
 unfold sI at hv
 split at hv
 ·rename_i e;exact⟨fun g=>absurd e.1 g,fun g=>absurd e.2 g⟩
 ·rw[Bool.and_eq_true] at hv
  have:0<p.c∧go p.c=false:=⟨of_decide_eq_true hv.1,by simpa using hv.2⟩
  exact⟨fun _=>this,fun _=>this⟩
theorem OW {p:Pt}(h:GP p) (hc:p.c=0):p.b1=0∧p.b2=0:=by
 obtain⟨h1,h2⟩:=Ha h
 constructor
 ·apply Classical.byContradiction;intro g;have:=(h1 g).1;grind
 ·apply Classical.byContradiction;intro g;have:=(h2 g).1;grind
structure VSz (a b c:Rat):Prop where
 za:Rz 760 a
 zb:Rz 700 b
 zc:Rz 78 c
 c0:0≤c
section
variable {k:Ci}{p:Pt}(hk:GK k) (hp:GP p)
include hk hp
theorem JN:Rz 115 (p.a1-k.x)∧Rz 115 (p.a2-k.y):=⟨(hp.a1.sub hk.x).mono (by decide),(hp.a2.sub hk.y).mono (by decide)⟩
omit hk in
theorem AB (h:fT p k.y≠0):(p.a2-k.y)*(p.a2-k.y)-p.b2*p.b2*zc p.b2 p.c≠0:=by
 refine PW (fun g=>?_) (fun g e=>h ?_)
 ·rw[fS g];exact((Ha hp).2 g).2
 ·unfold fT cm ll
  rw[g,e,eG,Int.zero_mul,if_pos (.inl rfl)]
omit hk in
theorem Po:sE (p.a2-k.y) p.b2 (zc p.b2 p.c)=fT p k.y:=by
 unfold fT
 rw[QV (fW (b9 hp)) (fun g=>by rw[fS g];exact((Ha hp).2 g).1),fK (fW (b9 hp))]
omit hk in
theorem FG:s3 (p.a2-k.y) p.b2 (zc p.b2 p.c)=fT p k.y:=by
 unfold fT
 rw[F9 (fW (b9 hp)) (fun g=>by rw[fS g];exact(Ha hp).2 g),fK (fW (b9 hp))]
theorem JD (h:fT p k.y≠0):Rz 352 (nf k p)∧VSz (nG k p) (gF k p) (zc (gF k p) p.c):=by
 have hn:=AB hp h
 have hc0:=fW (b:=gF k p) (b9 hp)
 have hcz:Rz 78 (zc (gF k p) p.c):=Rz.zc hp.c (by decide)
 by_cases hc:p.c=0
 ·obtain⟨z1,z2⟩:=OW hp hc
  obtain⟨d1,d2⟩:=JN hk hp
  have n1:Rz 231 (nf k p):=by
   unfold nf qV
   rw[z2] at hn⊢
   have e:(p.a2-k.y)*(p.a2-k.y)-0*0*zc 0 p.c=(p.a2-k.y)*(p.a2-k.y):=by grind
   rw[e] at hn⊢
   exact(iy.div (d2.mul d2) hn).mono (by decide)
  refine⟨n1.mono (by decide),⟨?_,?_,hcz,hc0⟩⟩
  ·have e:nG k p= -(p.a1-k.x)*((p.a2-k.y)*nf k p):=by unfold nG;rw[z1];grind
   rw[e];exact(d1.neg.mul (d2.mul n1)).mono (by decide)
  ·have e:gF k p=0:=by unfold gF;rw[z1,z2];grind
   rw[e];exact Rz.zero (by decide)
 ·obtain⟨i1,i2⟩:=hp.ir hc
  have d1:Rz 54 (p.a1-k.x):=(i1.sub hk.x).mono (by decide)
  have d2:Rz 54 (p.a2-k.y):=(i2.sub hk.y).mono (by decide)
  have n1:Rz 230 (nf k p):=by
   unfold nf qV
   exact(iy.div (((d2.mul d2).sub ((hp.b2.mul hp.b2).mul (Rz.zc hp.c (by decide)))).mono (by decide:_≤229)) hn).mono (by decide)
  refine⟨n1.mono (by decide),⟨?_,?_,hcz,hc0⟩⟩
  ·unfold nG
   exact((d1.neg.mul (d2.mul n1)).add ((hp.b1.neg.mul (hp.b2.neg.mul n1)).mul hp.c)).mono (by decide)
  ·unfold gF
   exact((d1.neg.mul (hp.b2.neg.mul n1)).add (hp.b1.neg.mul (d2.mul n1))).mono (by decide)
omit hk hp in
theorem QW:zc (gF k p) (cc (-p.b1) (zc p.b1 p.c) (zc (-p.b2*nf k p) (zc p.b2 p.c)))=zc (gF k p) p.c:=by
 by_cases hB:gF k p=0
 ·rw[o8 hB,o8 hB]
 ·rw[fS hB,fS hB]
  by_cases h1:p.b1=0
  ·rw[tk (by rw[h1];rfl)]
   have h2: -p.b2*nf k p≠0:=fun e=>hB (by unfold gF;rw[e,h1];grind)
   have h3:p.b2≠0:=fun e=>h2 (by rw[e];grind)
   rw[fS h2,fS h3]
  ·rw[oS (by grind),fS h1]
omit hk hp in
theorem UB: -(p.a1-k.x)*((p.a2-k.y)*nf k p)+ -p.b1*(-p.b2*nf k p)*cc (-p.b1) (zc p.b1 p.c) (zc (-p.b2*nf k p) (zc p.b2 p.c))=nG k p:=by
 unfold nG
 by_cases h1:p.b1=0
 ·rw[h1];grind
 ·rw[oS (by grind),fS h1]
omit hk in
theorem Pj:gF k p≠0→cc (-p.b1) (zc p.b1 p.c) (zc (-p.b2*nf k p) (zc p.b2 p.c))≠0:=by
 intro hB e
 have h:=QW (k:=k) (p:=p)
 rw[e] at h
 have hc:p.c≠0:=fun g=>hB (by obtain⟨z1,z2⟩:=OW hp g;unfold gF;rw[z1,z2];grind)
 rw[fS hB,fS hB] at h
 exact hc h.symm
omit hk in
theorem TH:rB (gF k p) (cc (-p.b1) (zc p.b1 p.c) (zc (-p.b2*nf k p) (zc p.b2 p.c)))=gF k p:=by
 by_cases hB:gF k p=0
 ·rw[En (.inl hB),hB]
 ·rw[M4 hB (Pj hp hB)]
omit hk in
theorem Tg:rC (gF k p) (cc (-p.b1) (zc p.b1 p.c) (zc (-p.b2*nf k p) (zc p.b2 p.c)))=zc (gF k p) p.c:=by
 by_cases hB:gF k p=0
 ·rw[Df (.inl hB),o8 hB]
 ·rw[P9 hB (Pj hp hB),←QW,fS hB]
omit hk hp in
theorem Ie: ¬G3 (-p.b1) (zc p.b1 p.c) (-p.b2*nf k p) (zc (-p.b2*nf k p) (zc p.b2 p.c)):=by
 rintro⟨h1,h2,h3⟩
 have g1:p.b1≠0:=by grind
 have g2:p.b2≠0:=fun e=>h2 (by rw[e];grind)
 rw[fS g1,fS h2,fS g2] at h3
 exact h3 rfl
omit hk in
theorem Tl:rB (-(p.b2*nf k p)) (zc p.b2 p.c)= -p.b2*nf k p:=by
 by_cases h:p.b2=0
 ·rw[En (.inl (by rw[h];grind)),h];grind
 ·have hc:p.c≠0:=by have:=((Ha hp).2 h).1;grind
  rw[fS h]
  by_cases g: -(p.b2*nf k p)=0
  ·rw[En (.inl g)];grind
  ·rw[M4 g hc];grind
omit hk in
theorem SO:rC (-(p.b2*nf k p)) (zc p.b2 p.c)=zc (-p.b2*nf k p) (zc p.b2 p.c):=by
 have e: -(p.b2*nf k p)= -p.b2*nf k p:=by grind
 by_cases h:p.b2=0
 ·rw[Df (.inl (by rw[h];grind)),o8 (by rw[h];grind)]
 ·have hc:p.c≠0:=by have:=((Ha hp).2 h).1;grind
  rw[fS h]
  by_cases g: -(p.b2*nf k p)=0
  ·rw[Df (.inl g),o8 (e▸g)]
  ·rw[P9 g hc,fS (e▸g)]
end
theorem JT {l:Ln}(hl:GL l) (h:l.b≠0):VSz (-l.a/l.b) 0 0:=⟨(hl.a.neg.div hl.b h).mono (by decide),Rz.zero (by decide),Rz.zero (by decide),Rat.le_refl⟩
theorem oK {l:Ln}{p q:Pt}(hl:GL l) (hp:GP p) (hq:GP q) (h1:d9 l p=0) (h2:d9 l q=0) (hn:cP p q≠0):cx p q=0↔l.b=0:=by
 have cp:=b9 hp
 have cq:=b9 hq
 rw[mx hp] at h1
 rw[mx hq] at h2
 have e:Re.of l.a*(pX p-pX q)+Re.of l.b*(pY p-pY q)=sP l p+ -sP l q:=Re.ext fun n=>by unfold sP;simp only[bt,bp,bK,cJ,bT];grind
 have h3:bR (Re.of l.a*(pX p-pX q)+Re.of l.b*(pY p-pY q))=0:=by rw[e,dy _ (by rw[dz,h2];rfl),h1]
 rw[iQ cp cq]
 have hy:bR (pX p-pX q)=0→bR (pY p-pY q)≠0:=fun h g=>hn (gC.2 ⟨by rw[iQ cp cq];exact h,by rw[tZ cp cq];exact g⟩)
 constructor
 ·intro h
  rw[gN (by rw[cj,h,Int.mul_zero]),cj,dN] at h3
  rcases Int.mul_eq_zero.1 h3 with g|g
  ·exact fu.1 g
  ·exact absurd g (hy h)
 ·intro h
  have ha:aV l.a 0≠0:=fun g=>hl.n (by unfold i7;rw[fu.1 g,h];grind)
  rw[h,dy _ (by rw[cj,dN,eG,Int.zero_mul]),cj,dN] at h3
  rcases Int.mul_eq_zero.1 h3 with g|g
  ·exact absurd g ha
  ·exact g
theorem Oy {c:Cv}(hc:c.good) {p:Pt}(hp:GP p): ∀ {a b e},c.slp p=.vl a b e→VSz a b e:=by
 intro a b e h
 cases c with
 |seg l f t=>
  have h:(if l.b=0 then Slp.vt else .vl (-l.a/l.b) 0 0)=.vl a b e:=h
  by_cases g:l.b=0
  ·rw[if_pos g] at h;cases h
  ·rw[if_neg g] at h;cases h;exact JT hc.1 g
 |arc k w f t=>
  have h:(if fT p k.y=0 then Slp.st (if w then 1 else-1) else .vl (nG k p) (gF k p) (zc (gF k p) p.c))=.vl a b e:=h
  by_cases g:fT p k.y=0
  ·rw[if_pos g] at h;cases h
  ·rw[if_neg g] at h;cases h;exact(JD hc.1 hp g).2
theorem DG {l:Ln}{f t p:Pt}{n:Int}:(Cv.seg l f t).slp p≠ .st n:=by
 intro h
 have h:(if l.b=0 then Slp.vt else .vl (-l.a/l.b) 0 0)=.st n:=h
 split at h<;>cases h
theorem EX (b:Rat):b+0=b:=by grind
theorem Ob (b c:Rat):zc (b+0) (cc b (zc b c) 0)=zc b c:=by
 by_cases h:b=0
 ·rw[h,tk rfl,o8 (by grind),o8 rfl]
 ·rw[oS h,fS (by grind),fS h]
section
variable {c d:Cv}{s t:Slp}{side:Int}
theorem vg (h:decide (rk s side<rk t side)=true):o6 c d s t side= -1:=by unfold o6;rw[if_pos (of_decide_eq_true h)]
theorem uY (h:decide (rk s side<rk t side)=false) (g:decide (rk s side>rk t side)=true):o6 c d s t side=1:=by unfold o6;rw[if_neg (of_decide_eq_false h),if_pos (of_decide_eq_true g)]
theorem F5 (h:decide (c.bnd<d.bnd)=true):i6 c d= -1:=by unfold i6;rw[if_pos (of_decide_eq_true h)]
theorem FF (h:decide (c.bnd<d.bnd)=false) (g:decide (c.bnd>d.bnd)=true):i6 c d=1:=by unfold i6;rw[if_neg (of_decide_eq_false h),if_pos (of_decide_eq_true g)]
theorem um (h:decide (c.bnd<d.bnd)=false) (g:decide (c.bnd>d.bnd)=false):i6 c d= -c.bnd*aV c.qq d.qq:=by unfold i6;rw[if_neg (of_decide_eq_false h),if_neg (of_decide_eq_false g)]
end
theorem p8 {k:Ci}{w:Bool}{p q:Pt}:(Cv.arc k w p q).bnd=1∨(Cv.arc k w p q).bnd= -1:=by
 show(if w=true then(-1:Int) else 1)=1∨(if w=true then(-1:Int) else 1)= -1
 split
 ·exact .inr rfl
 ·exact .inl rfl
theorem tO {c d:Cv}(h:(cP c.p d.p==0)=true) {s t:Slp}(hs:c.slp c.p=s) (ht:d.slp d.p=t):jl c d=o6 c d s t 1∧sT c d=0:=by
 unfold jl sT;rw[if_pos (by simpa using h),if_pos (by simpa using h),hs,ht];exact⟨rfl,rfl⟩
theorem Pf {c d:Cv}(h:(cP c.p d.p==0)=false):jl c d=0∧sT c d=1:=by
 unfold jl sT;rw[if_neg (by simpa using h),if_neg (by simpa using h)];exact⟨rfl,rfl⟩
theorem GJ {s t:Slp}(hs: ∀a b c,s=.vl a b c→0≤c) (ht: ∀a b c,t=.vl a b c→0≤c):t.vcmp s= -s.vcmp t:=by
 cases s<;>cases t<;>try rfl
 rename_i a b c x y z
 have h1:=hs a b c rfl
 have h2:=ht x y z rfl
 show iX (x-a) y (-b) 0 z c= -iX (a-x) b (-y) 0 c z
 rw[jH h2 h1,jH h1 h2,j8]
theorem n7 (x y:Rat):aV y x= -aV x y:=by
 unfold aV
 by_cases h:x<y
 ·rw[if_pos h,if_neg (by grind),if_pos h];rfl
 ·by_cases g:y<x
  ·rw[if_pos g,if_neg h,if_pos g]
  ·rw[if_neg h,if_neg g,if_neg g,if_neg h];rfl
theorem th (c:Cv): -1≤c.bnd∧c.bnd≤1:=by
 cases c with
 |seg l p q=>show(-1:Int)≤0∧(0:Int)≤1;decide
 |arc k w p q=>show-1≤(if w=true then(-1:Int) else 1)∧(if w=true then(-1:Int) else 1)≤1;split<;>decide
theorem HE (c d:Cv):i6 d c= -i6 c d:=by
 unfold i6
 by_cases h:c.bnd<d.bnd
 ·rw[if_pos h,if_neg (by omega),if_pos h];rfl
 ·by_cases g:d.bnd<c.bnd
  ·rw[if_pos g,if_neg h,if_pos g]
  ·have e:c.bnd=d.bnd:=by omega
   rw[if_neg h,if_neg g,if_neg g,if_neg h,n7 c.qq d.qq,e,Int.mul_neg]
theorem Ah {c:Cv}(hc:c.good) {p:Pt}(hp:GP p): ∀a b e,c.slp p=.vl a b e→0≤e:=by
 intro a b e h
 cases c with
 |seg l f t=>
  have h:(if l.b=0 then Slp.vt else .vl (-l.a/l.b) 0 0)=.vl a b e:=h
  split at h
  ·cases h
  ·cases h;exact Rat.le_refl
 |arc k w f t=>
  have h:(if fT p k.y=0 then Slp.st (if w then 1 else-1) else .vl (nG k p) (gF k p) (zc (gF k p) p.c))=.vl a b e:=h
  split at h
  ·cases h
  ·cases h;exact fW (b9 hp)
theorem BY {c d:Cv}{s t:Slp}{side:Int}(hs: ∀a b c,s=.vl a b c→0≤c) (ht: ∀a b c,t=.vl a b c→0≤c) (h1:side=1∨side= -1)
 (ws: ∀n,s=.st n→n=1∨n= -1) (wt: ∀n,t=.st n→n=1∨n= -1):o6 d c t s side= -o6 c d s t side:=by
 have hv:=GJ hs ht
 unfold o6
 by_cases h:rk s side<rk t side
 ·rw[if_neg (by omega),if_pos h,if_pos h];rfl
 ·by_cases g:rk t side<rk s side
  ·rw[if_pos g,if_neg h,if_pos g]
  ·rw[if_neg g,if_neg h,if_neg h,if_neg g]
   have e:rk s side=rk t side:=by omega
   cases s with
   |vt=>
    cases t with
    |vt=>rfl
    |st n=>have:=wt n rfl;simp only[rk] at e;omega
    |vl a b c=>simp only[rk] at e;omega
   |st m=>
    have:=ws m rfl
    cases t with
    |vt=>simp only[rk] at e;omega
    |st n=>
     simp only[rk] at e
     subst e
     show m*aV d.qq c.qq= -(m*aV c.qq d.qq)
     rw[n7 c.qq d.qq,Int.mul_neg]
    |vl a b c=>simp only[rk] at e;omega
   |vl a b c'=>
    cases t with
    |vt=>simp only[rk] at e;omega
    |st n=>have:=wt n rfl;simp only[rk] at e;omega
    |vl x y z=>
     show(if (Slp.vl x y z).vcmp (.vl a b c')=0 then _ else _)= -(if (Slp.vl a b c').vcmp (.vl x y z)=0 then _ else _)
     rw[hv]
     by_cases q:(Slp.vl a b c').vcmp (.vl x y z)=0
     ·rw[if_pos (by omega),if_pos q,HE]
     ·rw[if_neg (by omega),if_neg q,Int.mul_neg]
theorem u6 {c:Cv}{p:Pt}: ∀n,c.slp p=.st n→n=1∨n= -1:=by
 intro n h
 cases c with
 |seg l f t=>
  have h:(if l.b=0 then Slp.vt else .vl (-l.a/l.b) 0 0)=.st n:=h
  split at h<;>cases h
 |arc k w f t=>
  have h:(if fT p k.y=0 then Slp.st (if w then 1 else-1) else .vl (nG k p) (gF k p) (zc (gF k p) p.c))=.st n:=h
  split at h
  ·cases h;split
   ·exact .inl rfl
   ·exact .inr rfl
  ·cases h
theorem wj {c d:Cv}(hc:c.good) (hd:d.good):jl d c= -jl c d∧sT d c=sT c d:=by
 have a:=fQ (b9 (cn hc)) (b9 (cn hd))
 unfold jl sT
 by_cases h:cP c.p d.p=0
 ·rw[if_pos (by omega),if_pos h,if_pos (by omega),if_pos h]
  exact⟨BY (Ah hc (cn hc)) (Ah hd (cn hd)) (.inl rfl) u6 u6,rfl⟩
 ·rw[if_neg (by omega),if_neg h,if_neg (by omega),if_neg h];exact⟨rfl,rfl⟩
structure SlG (s:Slp):Prop where
 st: ∀n,s=.st n→n=1∨n= -1
 sz: ∀a b e,s=.vl a b e→VSz a b e
theorem kE {c:Cv}(hc:c.good) {p:Pt}(hp:GP p):SlG (c.slp p):=⟨u6,fun _ _ _ h=>Oy hc hp h⟩
theorem ni {c:Cv}{p:Pt}: ∀n,c.slp p=.st n→c.isArc=true:=by
 intro n h
 cases c with
 |seg l f t=>exact absurd h DG
 |arc k w f t=>rfl
theorem PH {c:Cv}(h:(!c.isArc)=true):c.bnd=0:=by
 cases c with
 |seg l f t=>rfl
 |arc k w f t=>cases h
theorem JU {c:Cv}(h:(!c.isArc)=false) (g:c.cw=true):c.bnd= -1:=by
 cases c with
 |seg l f t=>cases h
 |arc k w f t=>exact if_pos g
theorem I4 {c:Cv}(h:(!c.isArc)=false) (g:c.cw=false):c.bnd=1:=by
 cases c with
 |seg l f t=>cases h
 |arc k w f t=>exact if_neg (by rw[show w=false from g];decide)
theorem LM {c:Cv}(h:c.bnd≠0):c.isArc=true:=by
 cases c with
 |seg l f t=>exact absurd rfl h
 |arc k w f t=>rfl
theorem RP {c d:Cv}(h:c.bnd=d.bnd) (g:c.bnd=0):i6 c d=0:=by
 rw[um (decide_eq_false (by omega)) (decide_eq_false (by omega)),g,Int.neg_zero,Int.zero_mul]
section
variable {c d:Cv}{s t:Slp}{side:Int}(gs:SlG s) (gt:SlG t)
include gs
theorem tU (h:s.n=0): ∃a b e,s=.vl a b e:=by
 cases s with
 |vt=>cases h
 |st n=>have:=gs.st n rfl;simp only[Slp.n] at h;omega
 |vl a b e=>exact⟨a,b,e,rfl⟩
theorem TM (h2: ¬s.n=2) (h:s.n≠0): ∃n,s=.st n:=by
 cases s with
 |vt=>exact absurd rfl h2
 |st n=>exact⟨n,rfl⟩
 |vl a b e=>exact absurd rfl h
theorem LA (h:(s.n==2)=true):rk s side=2*side:=by
 cases s with
 |vt=>rfl
 |st n=>have:=gs.st n rfl;have h:n=2:=by simpa [Slp.n] using h
        omega
 |vl a b e=>simp[Slp.n] at h
theorem It (h:(s.n==2)=false):rk s side=s.n:=by
 cases s with
 |vt=>exact absurd h (by decide)
 |st n=>rfl
 |vl a b e=>rfl
theorem S6:rk s 1=s.n:=by cases s<;>rfl
include gt
set_option linter.unusedSectionVars false
variable (hs:side=1∨side= -1) (q1:decide (rk s side<rk t side)=false) (q2:decide (rk s side>rk t side)=false)
include hs q1 q2
theorem Ap (h:(s.n==2)=true):o6 c d s t side=0:=by
 cases s with
 |vt=>unfold o6;rw[if_neg (of_decide_eq_false q1),if_neg (of_decide_eq_false q2)]
 |st n=>have:=gs.st n rfl;have h:n=2:=by simpa [Slp.n] using h
        omega
 |vl a b e=>simp[Slp.n] at h
theorem zU (h:(s.n==2)=false) (g:(s.n !=0)=true):o6 c d s t side=s.n*aV c.qq d.qq∧(∃n,s=.st n)∧ ∃n,t=.st n:=by
 obtain⟨n,rfl⟩:=TM gs (by simpa using h) (by simpa using g)
 have a1:=of_decide_eq_false q1
 have a2:=of_decide_eq_false q2
 have b1:=gs.st n rfl
 refine⟨?_,⟨n,rfl⟩,?_⟩
 ·unfold o6;rw[if_neg a1,if_neg a2];rfl
 ·cases t with
  |vt=>simp only[rk] at a1 a2;omega
  |st m=>exact⟨m,rfl⟩
  |vl a b e=>simp only[rk] at a1 a2;omega
theorem yV (h:(s.n==2)=false) (g:(s.n !=0)=false):(s.n=0∧t.n=0)∧o6 c d s t side=if s.vcmp t=0 then i6 c d else side*s.vcmp t:=by
 have h0:s.n=0:=by simpa using g
 obtain⟨a,b,e,rfl⟩:=tU gs h0
 have a1:=of_decide_eq_false q1
 have a2:=of_decide_eq_false q2
 refine⟨⟨h0,?_⟩,?_⟩
 ·cases t with
  |vt=>simp only[rk] at a1 a2;omega
  |st m=>have:=gt.st m rfl;simp only[rk] at a1 a2;omega
  |vl a b e=>rfl
 ·unfold o6;rw[if_neg a1,if_neg a2]
set_option linter.unusedSectionVars true
end
theorem uI (s t:Slp): -1≤s.vcmp t∧s.vcmp t≤1:=by
 cases s<;>cases t<;>first|exact rG _ _ _ _ _ _|exact(by decide:(-1:Int)≤0∧(0:Int)≤1)
theorem HS {c d:Cv}(h:(cP c.p d.p !=0)=true):dK c d=cP c.p d.p:=by unfold dK;rw[if_pos (by simpa using h)]
theorem FB {c d:Cv}(h:(cP c.p d.p !=0)=false) (g:(jl c d !=0)=true):dK c d=jl c d:=by unfold dK;rw[if_neg (by simpa using h),if_pos (by simpa using g)]
theorem Fc {c d:Cv}(h:(cP c.p d.p !=0)=false) (g:(jl c d !=0)=false):dK c d=cP c.q d.q:=by unfold dK;rw[if_neg (by simpa using h),if_neg (by simpa using g)]
theorem GB {a b c:Rat}(ha:Rz 4000 a) (hb:Rz 4000 b) (hc:Rz 4000 c) (h1:sE a b c≠0) (h2:a*a-b*b*c≠0):Ok Tryz.prog 164 [.a ((cR a++cR b++cR c))] [.a ((cR (a*qV a b c)++cR (-b*qV a b c)++cR (zc (-b*qV a b c) c))),.c (.i .i64 0)]:=by
 have o1:Rz 60000 (1:Rat):=Sm (by decide+kernel)
 have n1:Rz 20200 (a*a-b*b*c):=((ha.mul ha).sub ((hb.mul hb).mul hc)).m_
 have n2:Rz 60000 (a*a-b*b*c):=n1.m_
 have i1:Rz 60000 (qV a b c):=(Rz.div (k:=1) (Sm (by decide+kernel)) n1 h2).m_
 have ka:Rz 60000 a:=ha.m_
 have kb:Rz 60000 (-b):=(hb.m_).neg
 have wa:Rz 10000 a:=ha.m_
 have wb:Rz 10000 b:=hb.m_
 have wc:Rz 10000 c:=hc.m_
 refine Ok.fn Tryz.func164 31 [.cell 2 49,.tmp 3] rfl ?_
 refine aa ?_
 refine ab ?_
 refine al 1 ?_
 refine aC (ai de rfl) rfl ?_
 refine ag ?_
 refine aa ?_
 refine aa ?_
 refine ab ?_
 refine al 1 ?_
 refine ah (am rfl (wM wa wb wc)) ?_
 refine ag ?_
 refine aw rfl (fun hc1=>?_) (fun hc1=>?_)
 ·exact absurd (by simpa using hc1) h1
 ·refine ao ?_
  refine aa ?_
  refine bZ 10 [4,999999] aU (by kernel_rfl) rfl rfl ?_
  refine aj (am rfl ((show Ok Tryz.prog 58 [.c (.i .i64 1)] [dR 1] from iM (by omega) (by omega)))) ?_
  refine ap 1 ?_
  refine aj (am rfl (wQ wa wb wc)) ?_
  refine aj (am rfl (vp o1 n2 h2)) ?_
  refine ap 3 ?_
  refine ba (ai bJ rfl) rfl ?_
  refine gz (fG aD rfl) rfl rfl rfl rfl ?_
  refine bk ?_
  refine bG ?_
  refine ar ?_
  refine aa ?_
  refine aa ?_
  refine ab ?_
  refine ag ?_
  refine aP rfl ?_
  refine ao ?_
  refine aa ?_
  refine aR 10 rfl rfl ?_
  refine ap 1 ?_
  refine aj (aF (cR a) aD rfl) ?_
  refine ap 1 ?_
  refine aj (aF (cR b) aD rfl) ?_
  refine aj (am rfl (gc (aX hb))) ?_
  refine ap 1 ?_
  refine aj (aF (cR c) aD rfl) ?_
  refine aj (aN (us:=(cR a++cR (-b)++cR c)) lQ de rfl rfl rfl) ?_
  refine ap 1 ?_
  refine aj (am rfl (Cw ka kb i1)) ?_
  refine aY ?_
  refine az ?_
  refine ag ?_
  refine an ?_
  exact aq (a7 dx rfl (aE ae))
theorem tR {a b c d e f:Rat}(hc:Rz 60000 c) (hf:Rz 60000 f) (hbad: ¬G3 b c e f):Ok Tryz.prog 237 [.a ((cR a++cR b++cR c)),.a ((cR d++cR e++cR f))] [dR (cc b c f),.c (.b true)]:=by
 refine Ok.fn Tryz.func237 26 [.cell 4 35,.tmp 5] rfl<|aa<|ab<|al 2<|aC (ai bJ rfl) rfl<|ag<|aa<|aa<|ab<|al 1<|ah (aF (cR b) aD rfl)<|ah (am rfl (dh))<|ag ?_
 refine aw rfl (fun hc1=>?_) (fun hc1=>?_)
 ·refine aa<|ab<|al 1<|ah (aF (cR f) aD rfl)<|ag<|an ?_
  rw[tk (mC hc1)]
  exact aq (a7 aD rfl (aE ae))
 ·refine ao<|aa<|bZ 16 [4,999999] aU (by kernel_rfl) rfl rfl<|ap 1<|aj (aF (cR c) aD rfl)<|ap 1<|aj (aF (cR e) aD rfl)<|aj (am rfl (dh))<|ap 1 ?_
  refine fb (bN rfl) (fun c2 hb2=>?_)
  cases c2
  ·refine ap 1<|aj (aF (cR c) aD rfl)<|ap 1<|aj (aF (cR f) aD rfl)<|aj (am rfl (kJ (aX hc) (aX hf)))<|ap 2<|gw (fG aD rfl) rfl rfl rfl rfl<|bk<|bl<|ar<|an ?_
   rw[oS (jT hc1),Ke hbad (jT hc1) (jT hb2)]
   exact aq (a7 aD rfl (aE ae))
  ·refine ap 7<|B8 (fG aD rfl) rfl rfl (by kernel_rfl) rfl<|bk<|bl<|ar<|an ?_
   rw[oS (jT hc1)]
   exact aq (a7 aD rfl (aE ae))
theorem rU {a b c d e f:Rat}(ha:Rz 5000 a) (hb:Rz 5000 b) (hc:Rz 5000 c) (hd:Rz 5000 d) (he:Rz 5000 e) (hf:Rz 5000 f) (hbad: ¬G3 b c e f):Ok Tryz.prog 163 [.a ((cR a++cR b++cR c)),.a ((cR d++cR e++cR f))] [.a ((cR (a+d)++cR (b+e)++cR (zc (b+e) (cc b c f)))),.c (.i .i64 0)]:=by
 have ka:Rz 60000 a:=ha.m_
 have kb:Rz 60000 b:=hb.m_
 have kc:Rz 60000 c:=hc.m_
 have kd:Rz 60000 d:=hd.m_
 have ke:Rz 60000 e:=he.m_
 have kf:Rz 60000 f:=hf.m_
 refine Ok.fn Tryz.func163 29 [.cell 4 49,.tmp 5] rfl<|aa<|ab<|al 2<|aC (ai de rfl) rfl<|ag<|aa<|ab<|al 2<|ah (am rfl (tR kc kf hbad))<|al 3<|aC (ai bJ rfl) rfl<|ag<|aa ?_
 refine aa<|ab<|ag<|aP rfl<|ao<|aa<|aR 12 rfl rfl<|ap 1<|aj (aF (cR a) aD rfl)<|ap 1<|aj (aF (cR d) aD rfl)<|aj (am rfl (kS (aX ha) (aX hd)))<|ap 1<|aj (aF (cR b) aD rfl) ?_
 refine ap 1<|aj (aF (cR e) aD rfl)<|aj (am rfl (kS (aX hb) (aX he)))<|ap 1<|aj (am rfl (lr))<|aY<|az<|ag<|an ?_
 exact aq (a7 dx rfl (aE ae))
theorem JL {a b c d e f:Rat}(ha:Rz 5000 a) (hb:Rz 5000 b) (hc:Rz 5000 c) (hd:Rz 5000 d) (he:Rz 5000 e) (hf:Rz 5000 f) (hbad: ¬G3 b c e f):Ok Tryz.prog 165 [.a ((cR a++cR b++cR c)),.a ((cR d++cR e++cR f))] [.a ((cR (a*d+b*e*cc b c f)++cR (a*e+b*d)++cR (zc (a*e+b*d) (cc b c f)))),.c (.i .i64 0)]:=by
 have ka:Rz 60000 a:=ha.m_
 have kb:Rz 60000 b:=hb.m_
 have kc:Rz 60000 c:=hc.m_
 have kd:Rz 60000 d:=hd.m_
 have ke:Rz 60000 e:=he.m_
 have kf:Rz 60000 f:=hf.m_
 have hcc:Rz 5000 (cc b c f):=by unfold cc;split<;>assumption
 have z1:Rz 60000 (b*e):=(Rz.mul hb he).m_
 have z2:Rz 60000 (cc b c f):=hcc.m_
 have z3:Rz 60000 (b*e*cc b c f):=(Rz.mul (Rz.mul hb he) hcc).m_
 refine Ok.fn Tryz.func165 47 [.cell 4 49,.tmp 5] rfl<|aa<|ab<|al 2<|aC (ai de rfl) rfl<|ag<|aa<|ab<|al 2<|ah (am rfl (tR kc kf hbad))<|al 3<|aC (ai bJ rfl) rfl<|ag<|aa ?_
 refine aa<|ab<|ag<|aP rfl<|ao<|aa<|aR 14 rfl rfl<|ap 1<|aj (aF (cR a) aD rfl)<|ap 1<|aj (aF (cR d) aD rfl) ?_
 refine aj (am rfl (dd (by first|assumption|exact Rz.mono ha (by decide)) (by first|assumption|exact Rz.mono hd (by decide)))) ?_
 refine ap 1<|aj (aF (cR b) aD rfl)<|ap 1<|aj (aF (cR e) aD rfl) ?_
 refine aj (am rfl (dd (by first|assumption|exact Rz.mono hb (by decide)) (by first|assumption|exact Rz.mono he (by decide)))) ?_
 refine ap 1 ?_
 refine aj (am rfl (dd (by first|assumption|exact Rz.mono (Rz.mul hb he) (by decide)) (by first|assumption|exact Rz.mono (by assumption) (by decide)))) ?_
 refine aj (am rfl (kS (by first|assumption|exact Rz.mono (Rz.mul ha hd) (by decide)) (by first|assumption|exact Rz.mono (Rz.mul (Rz.mul hb he) (by assumption)) (by decide)))) ?_
 refine ba (ai bJ rfl) rfl<|aY<|bl<|ag<|aa<|aR 12 rfl rfl<|ap 1<|aj (aF (cR a) aD rfl)<|ap 1<|aj (aF (cR e) aD rfl) ?_
 refine aj (am rfl (dd (by first|assumption|exact Rz.mono ha (by decide)) (by first|assumption|exact Rz.mono he (by decide)))) ?_
 refine ap 1<|aj (aF (cR b) aD rfl)<|ap 1<|aj (aF (cR d) aD rfl) ?_
 refine aj (am rfl (dd (by first|assumption|exact Rz.mono hb (by decide)) (by first|assumption|exact Rz.mono hd (by decide)))) ?_
 refine aj (am rfl (kS (by first|assumption|exact Rz.mono (Rz.mul ha he) (by decide)) (by first|assumption|exact Rz.mono (Rz.mul hb hd) (by decide)))) ?_
 refine ba (ai bJ rfl) rfl<|aY<|bl<|ag<|aa<|ab<|al 3<|ah (am rfl (lr))<|ag<|an ?_
 exact aq (a7 dx rfl (aE ae))
theorem Oo {a b c:Rat}(ha:Rz 5000 a) (hb:Rz 5000 b) (hc:Rz 5000 c) (h1:sE a b c=0):Ok Tryz.prog 164 [.a ((cR a++cR b++cR c))] [.a (cS),.c (.i .i64 6)]:=by
 refine Ok.fn Tryz.func164 31 [.cell 2 49,.tmp 3] rfl<|aa<|ab<|al 1<|aC (ai de rfl) rfl<|ag<|aa<|aa<|ab<|al 1<|ah (am rfl (wM (ha.m_) (hb.m_) (hc.m_)))<|ag ?_
 refine aw rfl (fun hc1=>?_) (fun hc1=>?_)
 ·refine aa<|ab<|ah (aN (us:=cS) lQ de rfl rfl rfl) ?_
  refine ag<|an ?_
  exact aq (a7 dx rfl (aE ae))
 ·exact absurd hc1 (by rw[h1];decide)
theorem Oh {a b c:Rat}(ha:Rz 60000 a) (hb:Rz 60000 b):Ok Tryz.prog 169 [.a ((cR a++cR b++cR c))] [.a ((cR (-a)++cR (-b)++cR c))]:=by
 refine Ok.fn Tryz.func169 12 [.cell 2 49] rfl<|aa<|ab<|al 1<|aC (ai de rfl) rfl<|ar<|aa<|aR 9 rfl rfl<|ap 1<|aj (aF (cR a) aD rfl)<|aj (am rfl (eK (aX ha)))<|ap 1<|aj (aF (cR b) aD rfl)<|aj (am rfl (eK (aX hb))) ?_
 refine ap 1<|aj (aF (cR c) aD rfl)<|aj (aN (us:=(cR (-a)++cR (-b)++cR c)) lQ de rfl rfl rfl) ?_
 refine aY<|az<|ag<|an ?_
 exact aq (a7 dx rfl ae)
theorem IU:Ok Tryz.prog 241 [] [dR 1]:=by
 refine Ok.fn Tryz.func241 2 [.cell 0 35] rfl<|aa<|ab<|aC (ai bJ rfl) rfl<|ar<|aa<|ab<|ah (am rfl (dt (gM (by decide) (by decide)) (show((1:Int):Rat)=1 from rfl)))<|ag<|an ?_
 exact aq (a7 aD rfl ae)
theorem K8 {a b c:Rat}(ha:Rz 4000 a) (hb:Rz 4000 b) (hc:Rz 4000 c) (h1:s3 a b c≠0) (h2:a*a-b*b*c≠0):Ok Tryz.prog 167 [.a ((cR a++cR b++cR c))] [.a ((cR (a*qV a b c)++cR (rB (-(b*qV a b c)) c)++cR (rC (-(b*qV a b c)) c))),.c (.i .i64 0)]:=by
 have ka:Rz 60000 a:=ha.m_
 have kb:Rz 60000 b:=hb.m_
 have o1:Rz 60000 (1:Rat):=iy.m_
 have n0:Rz 20001 (a*a-b*b*c):=((ha.mul ha).sub ((hb.mul hb).mul hc)).m_
 have n1:Rz 20004 (qV a b c):=(iy.div n0 h2).m_
 have n2:Rz 60000 (qV a b c):=n1.m_
 have n3:Rz 60000 (b*qV a b c):=(hb.mul n1).m_
 have n4:Rz 60000 (a*a-b*b*c):=n0.m_
 refine Ok.fn Tryz.func167 29 [.cell 2 49,.tmp 3] rfl<|aa<|ab<|al 1<|aC (ai de rfl) rfl<|ag<|aa<|aa<|ab<|al 1<|ah (am rfl (kj (ha.m_) (hb.m_) (hc.m_)))<|ag ?_
 refine aw rfl (fun hc1=>?_) (fun hc1=>?_)
 ·exact absurd (by simpa using hc1) h1
 ·refine ao<|aa<|bZ 10 [4,999999] aU (by kernel_rfl) rfl rfl<|aj (am rfl (IU))<|ap 1<|aj (am rfl (wR (ha.m_) (hb.m_) (hc.m_)))<|aj (am rfl ((show Ok Tryz.prog 61 _ [dR (qV a b c),.c (.i .i64 0)] from pQ o1 n4 h2)))<|ap 3<|ba (ai bJ rfl) rfl<|gz (fG aD rfl) rfl rfl rfl rfl<|bk<|bG<|ar<|aa ?_
  refine aR 12 rfl rfl<|ap 1<|aj (aF (cR a) aD rfl)<|ap 1 ?_
  refine aj (am rfl (cW (by first|assumption|exact Rz.mono ha (by decide)) (by first|assumption|exact Rz.mono (by assumption) (by decide)))) ?_
  refine ap 1<|aj (aF (cR b) aD rfl)<|ap 1 ?_
  refine aj (am rfl (cW (by first|assumption|exact Rz.mono hb (by decide)) (by first|assumption|exact Rz.mono (by assumption) (by decide)))) ?_
  refine aj (am rfl (eK (by first|assumption|exact Rz.mono (Rz.mul hb (by assumption)) (by decide)))) ?_
  refine ap 1<|aj (aF (cR c) aD rfl)<|aj (am rfl (lF))<|aY<|az<|ag<|an ?_
  exact aq (a7 dx rfl (aE ae))
theorem Rn {l:Ln}(_hl:GL l) {f t p:Pt}(_hf:GP f) (_ht:GP t) (_hp:GP p) (h0:l.b=0):Ok Tryz.prog 88 [.a (([.b false]++dV l++cS++[.b false]++au f++au t)),.a (au p)] [.a (([.i .i64 2]++cS))]:=by
 refine Ok.fn Tryz.func88 80 [.cell 4 116] rfl<|aa<|ab<|al 2<|aC (ai ru rfl) rfl<|ar<|aa<|aa<|ab<|ag<|bg rfl<|aa<|aa<|ab ?_
 refine al 2<|ah (cD (cR l.b) aD rfl (by kernel_rfl))<|ah (am rfl (dh))<|ag ?_
 refine aw rfl (fun hc1=>?_) (fun hc1=>?_)
 ·refine aa<|ab<|ah (aN (us:=([.i .i64 2]++cS)) Cs ru rfl rfl rfl) ?_
  refine ag<|an ?_
  exact aq (a7 wd rfl ae)
 ·exact absurd hc1 (by rw[h0];decide)
theorem Ry {l:Ln}(hl:GL l) {f t p:Pt}(_hf:GP f) (_ht:GP t) (_hp:GP p) (h0:l.b≠0):Ok Tryz.prog 88 [.a (([.b false]++dV l++cS++[.b false]++au f++au t)),.a (au p)] [.a (([.i .i64 0]++(cR (-l.a/l.b)++cR 0++cR 0)))]:=by
 refine Ok.fn Tryz.func88 80 [.cell 4 116] rfl<|aa<|ab<|al 2<|aC (ai ru rfl) rfl<|ar<|aa<|aa<|ab<|ag<|bg rfl<|aa<|aa<|ab ?_
 refine al 2<|ah (cD (cR l.b) aD rfl (by kernel_rfl))<|ah (am rfl (dh))<|ag ?_
 refine aw rfl (fun hc1=>?_) (fun hc1=>?_)
 ·exact absurd (mC hc1) h0
 ·refine ao<|aa<|bZ 14 [5,999999] aU (by kernel_rfl) rfl rfl<|ap 2<|aj (cD (cR l.a) aD rfl (by kernel_rfl)) ?_
  refine aj (am rfl (gc (by first|assumption|exact hl.a.m_))) ?_
  refine ap 2<|aj (cD (cR l.b) aD rfl (by kernel_rfl))<|aj (am rfl (vp (hl.a.neg.m_) (hl.b.m_) h0))<|ap 3<|ba (ai bJ rfl) rfl<|gz (fG aD rfl) rfl rfl rfl rfl<|bk<|bG<|ar<|aa<|ab<|al 1<|ah (am rfl (dM))<|ah (aN (us:=([.i .i64 0]++(cR (-l.a/l.b)++cR 0++cR 0))) Cs ru rfl rfl rfl) ?_
  refine ag<|an ?_
  exact aq (a7 wd rfl ae)
theorem P6 {k:Ci}(hk:GK k) {w:Bool}{f t p:Pt}(_hf:GP f) (_ht:GP t) (hp:GP p) (h0:fT p k.y=0):Ok Tryz.prog 88 [.a (([.b true]++cS++ca k++[.b w]++au f++au t)),.a (au p)] [.a (([.i .i64 (if w then 1 else-1)]++cS))]:=by
 obtain⟨d1,d2⟩:=JN hk hp
 have hz1:Rz 78 (zc p.b1 p.c):=Rz.zc hp.c (by decide)
 have hz2:Rz 78 (zc p.b2 p.c):=Rz.zc hp.c (by decide)
 have kx:Rz 60000 k.x:=hk.x.m_
 have ky:Rz 60000 k.y:=hk.y.m_
 have zf:Rz 5000 (0:Rat):=Rz.zero (by decide)
 have j1:Rz 60000 (p.a1-k.x):=d1.m_
 have j2:Rz 60000 p.b1:=hp.b1.m_
 refine Ok.fn Tryz.func88 80 [.cell 4 116] rfl<|aa<|ab<|al 2<|aC (ai ru rfl) rfl<|ar<|aa<|aa<|ab<|ag<|aP rfl<|ao<|aa<|bZ 14 [7,999999] aU (by kernel_rfl) rfl rfl ?_
 refine ap 1<|aj (am rfl (jw))<|ap 2<|aj (cD (cR k.x) aD rfl (by kernel_rfl)) ?_
 refine aj (am rfl (gc (by first|assumption|exact hl.a.m_))) ?_
 refine aj (am rfl (dM))<|aj (am rfl (jr (rU (hp.a1.m_) (hp.b1.m_) (hz1.m_) (hk.x.neg.m_) zf zf (fun e=>e.2.1 rfl)) (qL _ _) (EX _) (Ob _ _)))<|ap 3<|ba (ai de rfl) rfl<|gz (fG dx rfl) rfl rfl rfl rfl<|bk<|bG<|ar<|aa<|bZ 14 [9,999999] aU (by kernel_rfl) rfl rfl<|ap 1<|aj (am rfl (nw))<|ap 2<|aj (cD (cR k.y) aD rfl (by kernel_rfl)) ?_
 refine aj (am rfl (gc (by first|assumption|exact hl.a.m_))) ?_
 refine aj (am rfl (dM))<|aj (am rfl (jr (rU (hp.a2.m_) (hp.b2.m_) (hz2.m_) (hk.y.neg.m_) zf zf (fun e=>e.2.1 rfl)) (qL _ _) (EX _) (Ob _ _)))<|ap 3<|ba (ai de rfl) rfl<|gz (fG dx rfl) rfl rfl rfl rfl<|bk<|bG<|ar<|aa<|ab<|al 1<|ah (am rfl (Oo (d2.m_) (hp.b2.m_) (hz2.m_) ((Po hp).trans h0)))<|al 3<|aC (ai de rfl) rfl ?_
 refine ag<|aa<|aa<|ab<|ag<|bg rfl<|aa<|aa<|ab<|ag ?_
 refine aw rfl (fun hc1=>?_) (fun hc1=>?_)
 ·refine aa<|ab<|ah (aN (us:=([.i .i64 1]++cS)) Cs ru rfl rfl rfl) ?_
  refine ag<|an ?_
  rw[show(if w then 1 else-1:Int)=1 from if_pos hc1]
  exact aq (a7 wd rfl ae)
 ·refine ao<|aa<|ab<|ah (aN (us:=([.i .i64 (-1)]++cS)) Cs ru rfl rfl rfl) ?_
  refine ag<|an ?_
  rw[show(if w then 1 else-1:Int)= -1 from if_neg (by rw[hc1];decide)]
  exact aq (a7 wd rfl ae)
theorem QK {k:Ci}(hk:GK k) {w:Bool}{f t p:Pt}(_hf:GP f) (_ht:GP t) (hp:GP p) (h0:fT p k.y≠0):Ok Tryz.prog 88 [.a (([.b true]++cS++ca k++[.b w]++au f++au t)),.a (au p)] [.a (([.i .i64 0]++(cR (nG k p)++cR (gF k p)++cR (zc (gF k p) p.c))))]:=by
 obtain⟨d1,d2⟩:=JN hk hp
 have hz1:Rz 78 (zc p.b1 p.c):=Rz.zc hp.c (by decide)
 have hz2:Rz 78 (zc p.b2 p.c):=Rz.zc hp.c (by decide)
 have kx:Rz 60000 k.x:=hk.x.m_
 have ky:Rz 60000 k.y:=hk.y.m_
 have zf:Rz 5000 (0:Rat):=Rz.zero (by decide)
 have j1:Rz 60000 (p.a1-k.x):=d1.m_
 have j2:Rz 60000 p.b1:=hp.b1.m_
 have hn:=AB hp h0
 obtain⟨v1,v2⟩:=JD hk hp h0
 have w1:Rz 5000 ((p.a2-k.y)*nf k p):=(d2.mul v1).m_
 have w2:Rz 5000 (-p.b2*nf k p):=(hp.b2.neg.mul v1).m_
 have w3:Rz 78 (zc (-p.b2*nf k p) (zc p.b2 p.c)):=Rz.zc hz2 (by decide)
 refine Ok.fn Tryz.func88 80 [.cell 4 116] rfl<|aa<|ab<|al 2<|aC (ai ru rfl) rfl<|ar<|aa<|aa<|ab<|ag<|aP rfl<|ao<|aa<|bZ 14 [7,999999] aU (by kernel_rfl) rfl rfl ?_
 refine ap 1<|aj (am rfl (jw))<|ap 2<|aj (cD (cR k.x) aD rfl (by kernel_rfl)) ?_
 refine aj (am rfl (gc (by first|assumption|exact hl.a.m_))) ?_
 refine aj (am rfl (dM))<|aj (am rfl (jr (rU (hp.a1.m_) (hp.b1.m_) (hz1.m_) (hk.x.neg.m_) zf zf (fun e=>e.2.1 rfl)) (qL _ _) (EX _) (Ob _ _)))<|ap 3<|ba (ai de rfl) rfl<|gz (fG dx rfl) rfl rfl rfl rfl<|bk<|bG<|ar<|aa<|bZ 14 [9,999999] aU (by kernel_rfl) rfl rfl<|ap 1<|aj (am rfl (nw))<|ap 2<|aj (cD (cR k.y) aD rfl (by kernel_rfl)) ?_
 refine aj (am rfl (gc (by first|assumption|exact hl.a.m_))) ?_
 refine aj (am rfl (dM))<|aj (am rfl (jr (rU (hp.a2.m_) (hp.b2.m_) (hz2.m_) (hk.y.neg.m_) zf zf (fun e=>e.2.1 rfl)) (qL _ _) (EX _) (Ob _ _)))<|ap 3<|ba (ai de rfl) rfl<|gz (fG dx rfl) rfl rfl rfl rfl<|bk<|bG<|ar<|aa<|ab<|al 1<|ah (am rfl ((show Ok Tryz.prog 164 _ [.a ((cR ((p.a2-k.y)*nf k p)++cR (-p.b2*nf k p)++cR (zc (-p.b2*nf k p) (zc p.b2 p.c)))),.c (.i .i64 0)] from GB (d2.m_) (hp.b2.m_) (hz2.m_) (by rw[Po hp];exact h0) hn)))<|al 3<|aC (ai de rfl) rfl ?_
 refine ag<|aa<|aa<|ab<|ag<|aP rfl<|ao<|aa<|bZ 10 [13,999999] aU (by kernel_rfl) rfl rfl<|ap 1<|aj (am rfl (Gf j1 j2))<|ap 1<|aj (am rfl (jr (JL (d1.neg.m_) (hp.b1.neg.m_) (hz1.m_) w1 w2 (w3.m_) Ie) UB rfl QW))<|ap 3 ?_
 refine ba (ai de rfl) rfl<|gz (fG dx rfl) rfl rfl rfl rfl<|bk<|bG<|ar<|aa<|ab<|al 1<|ah (aN (us:=([.i .i64 0]++(cR (nG k p)++cR (gF k p)++cR (zc (gF k p) p.c)))) Cs ru rfl rfl rfl) ?_
 refine ag<|an ?_
 exact aq (a7 wd rfl ae)
theorem UL {c:Cv}(hc:CvV c) {p:Pt}(hp:GP p):Ok Tryz.prog 88 [.a (aB c),.a (au p)] [.a (kF (c.slp p))]:=by
 cases c with
 |seg l f t=>
  have hl:=hc.g.1
  have hf:=hc.g.2.1
  have ht:=hc.g.2.2
  show Ok _ _ _ [.a (kF (if l.b=0 then Slp.vt else .vl (-l.a/l.b) 0 0))]
  by_cases h0:l.b=0
  ·rw[if_pos h0];exact Rn hl hf ht hp h0
  ·rw[if_neg h0];exact Ry hl hf ht hp h0
 |arc k w f t=>
  have hk:=hc.g.1
  have hf:=hc.g.2.1
  have ht:=hc.g.2.2
  show Ok _ _ _ [.a (kF (if fT p k.y=0 then Slp.st (if w then 1 else-1) else .vl (nG k p) (gF k p) (zc (gF k p) p.c)))]
  by_cases h0:fT p k.y=0
  ·rw[if_pos h0];exact P6 hk hf ht hp h0
  ·rw[if_neg h0];exact QK hk hf ht hp h0
theorem R4 {l:Ln}(hl:GL l) {f t p:Pt}(hf:GP f) (ht:GP t) (_hp:GP p) (hv:cx f t=0) (_h0:l.b=0):Ok Tryz.prog 90 [.a (([.b false]++dV l++cS++[.b false]++au f++au t)),.a (au p)] [.a (([.i .i64 2]++cS))]:=by
 refine Ok.fn Tryz.func90 68 [.cell 4 119] rfl<|aa<|ab<|al 2<|aC (ai nN rfl) rfl<|ar<|aa<|aa<|ab<|al 1<|ah (am rfl (se hl hf ht))<|ar ?_
 refine aw rfl (fun hc1=>?_) (fun hc1=>?_)
 ·refine aa<|ab<|ah (aN (us:=([.i .i64 2]++cS)) AX nN rfl rfl rfl) ?_
  refine ag<|an ?_
  exact aq (a7 rD rfl ae)
 ·exact absurd hc1 (by rw[show(Cv.seg l f t).vert=(cx f t==0) from rfl,hv];decide)
theorem R1 {l:Ln}(hl:GL l) {f t p:Pt}(hf:GP f) (ht:GP t) (_hp:GP p) (hv:cx f t≠0) (h0:l.b≠0):Ok Tryz.prog 90 [.a (([.b false]++dV l++cS++[.b false]++au f++au t)),.a (au p)] [.a (([.i .i64 0]++(cR (-l.a/l.b)++cR 0++cR 0)))]:=by
 refine Ok.fn Tryz.func90 68 [.cell 4 119] rfl<|aa<|ab<|al 2<|aC (ai nN rfl) rfl<|ar<|aa<|aa<|ab<|al 1<|ah (am rfl (se hl hf ht))<|ar ?_
 refine aw rfl (fun hc1=>?_) (fun hc1=>?_)
 ·exact absurd (by simpa using(show(cx f t==0)=true from hc1)) hv
 ·refine ao<|aa<|aa<|ab<|ag<|bg rfl<|aa<|bZ 14 [5,999999] aU (by kernel_rfl) rfl rfl<|ap 2<|aj (cD (cR l.a) aD rfl (by kernel_rfl)) ?_
  refine aj (am rfl (eK (by first|assumption|exact hl.a.m_))) ?_
  refine ap 2<|aj (cD (cR l.b) aD rfl (by kernel_rfl))<|aj (am rfl (pQ (hl.a.neg.m_) (hl.b.m_) h0))<|ap 3<|ba (ai bJ rfl) rfl<|gz (fG aD rfl) rfl rfl rfl rfl<|bk<|bG<|ar<|aa<|ab<|al 1<|ah (am rfl (dP))<|ah (aN (us:=([.i .i64 0]++(cR (-l.a/l.b)++cR 0++cR 0))) AX nN rfl rfl rfl) ?_
  refine ag<|an ?_
  exact aq (a7 rD rfl ae)
theorem Qg {k:Ci}(hk:GK k) {w:Bool}{f t p:Pt}(hf:GP f) (ht:GP t) (hp:GP p) (h0:fT p k.y=0):Ok Tryz.prog 90 [.a (([.b true]++cS++ca k++[.b w]++au f++au t)),.a (au p)] [.a (([.i .i64 (if w then 1 else-1)]++cS))]:=by
 obtain⟨d1,d2⟩:=JN hk hp
 have hz1:Rz 78 (zc p.b1 p.c):=Rz.zc hp.c (by decide)
 have hz2:Rz 78 (zc p.b2 p.c):=Rz.zc hp.c (by decide)
 have kx:Rz 60000 k.x:=hk.x.m_
 have ky:Rz 60000 k.y:=hk.y.m_
 have zf:Rz 5000 (0:Rat):=Rz.zero (by decide)
 have j1:Rz 60000 (p.a1-k.x):=d1.m_
 have j2:Rz 60000 p.b1:=hp.b1.m_
 refine Ok.fn Tryz.func90 68 [.cell 4 119] rfl<|aa<|ab<|al 2<|aC (ai nN rfl) rfl<|ar<|aa<|aa<|ab<|al 1<|ah (am rfl (qp hk hf ht))<|ar<|aP rfl<|ao ?_
 refine aa<|aa<|ab<|ag<|aP rfl<|ao<|aa<|aR 8 rfl rfl<|ap 1<|aj (am rfl (i4))<|ap 2<|aj (cD (cR k.x) aD rfl (by kernel_rfl)) ?_
 refine aj (am rfl (eK (by first|assumption|exact hl.a.m_))) ?_
 refine aj (am rfl (ow (iT (hp.a1.m_) (hk.x.neg.m_)) (qL _ _) rfl rfl))<|ba (ai de rfl) rfl<|aY<|bl<|ag<|aa<|aR 8 rfl rfl<|ap 1<|aj (am rfl (lU))<|ap 2<|aj (cD (cR k.y) aD rfl (by kernel_rfl)) ?_
 refine aj (am rfl (eK (by first|assumption|exact hl.a.m_))) ?_
 refine aj (am rfl (ow (iT (hp.a2.m_) (hk.y.neg.m_)) (qL _ _) rfl rfl))<|ba (ai de rfl) rfl<|aY<|bl<|ag<|aa<|aa<|ab<|al 1<|ah (am rfl (i5 (kj (d2.m_) (hp.b2.m_) (hz2.m_)) (FG hp)))<|ag ?_
 refine aw rfl (fun hc1=>?_) (fun hc1=>?_)
 ·refine aa<|aa<|ab<|ag ?_
  refine aw rfl (fun hc2=>?_) (fun hc2=>?_)
  ·refine aa<|ab<|ah (aN (us:=([.i .i64 1]++cS)) AX nN rfl rfl rfl) ?_
   refine ag<|an ?_
   rw[show(if w then 1 else-1:Int)=1 from if_pos hc2]
   exact aq (a7 rD rfl ae)
  ·refine ao<|aa<|ab<|ah (aN (us:=([.i .i64 (-1)]++cS)) AX nN rfl rfl rfl) ?_
   refine ag<|an ?_
   rw[show(if w then 1 else-1:Int)= -1 from if_neg (by rw[hc2];decide)]
   exact aq (a7 rD rfl ae)
 ·exact absurd hc1 (by rw[h0];decide)
theorem RD {k:Ci}(hk:GK k) {w:Bool}{f t p:Pt}(hf:GP f) (ht:GP t) (hp:GP p) (h0:fT p k.y≠0):Ok Tryz.prog 90 [.a (([.b true]++cS++ca k++[.b w]++au f++au t)),.a (au p)] [.a (([.i .i64 0]++(cR (nG k p)++cR (gF k p)++cR (zc (gF k p) p.c))))]:=by
 obtain⟨d1,d2⟩:=JN hk hp
 have hz1:Rz 78 (zc p.b1 p.c):=Rz.zc hp.c (by decide)
 have hz2:Rz 78 (zc p.b2 p.c):=Rz.zc hp.c (by decide)
 have kx:Rz 60000 k.x:=hk.x.m_
 have ky:Rz 60000 k.y:=hk.y.m_
 have zf:Rz 5000 (0:Rat):=Rz.zero (by decide)
 have j1:Rz 60000 (p.a1-k.x):=d1.m_
 have j2:Rz 60000 p.b1:=hp.b1.m_
 have hn:=AB hp h0
 obtain⟨v1,v2⟩:=JD hk hp h0
 have w1:Rz 5000 ((p.a2-k.y)*nf k p):=(d2.mul v1).m_
 have w2:Rz 5000 (-p.b2*nf k p):=(hp.b2.neg.mul v1).m_
 have w3:Rz 78 (zc (-p.b2*nf k p) (zc p.b2 p.c)):=Rz.zc hz2 (by decide)
 refine Ok.fn Tryz.func90 68 [.cell 4 119] rfl<|aa<|ab<|al 2<|aC (ai nN rfl) rfl<|ar<|aa<|aa<|ab<|al 1<|ah (am rfl (qp hk hf ht))<|ar<|aP rfl<|ao ?_
 refine aa<|aa<|ab<|ag<|aP rfl<|ao<|aa<|aR 8 rfl rfl<|ap 1<|aj (am rfl (i4))<|ap 2<|aj (cD (cR k.x) aD rfl (by kernel_rfl)) ?_
 refine aj (am rfl (eK (by first|assumption|exact hl.a.m_))) ?_
 refine aj (am rfl (ow (iT (hp.a1.m_) (hk.x.neg.m_)) (qL _ _) rfl rfl))<|ba (ai de rfl) rfl<|aY<|bl<|ag<|aa<|aR 8 rfl rfl<|ap 1<|aj (am rfl (lU))<|ap 2<|aj (cD (cR k.y) aD rfl (by kernel_rfl)) ?_
 refine aj (am rfl (eK (by first|assumption|exact hl.a.m_))) ?_
 refine aj (am rfl (ow (iT (hp.a2.m_) (hk.y.neg.m_)) (qL _ _) rfl rfl))<|ba (ai de rfl) rfl<|aY<|bl<|ag<|aa<|aa<|ab<|al 1<|ah (am rfl (i5 (kj (d2.m_) (hp.b2.m_) (hz2.m_)) (FG hp)))<|ag ?_
 refine aw rfl (fun hc1=>?_) (fun hc1=>?_)
 ·exact absurd (by simpa using hc1) h0
 ·refine ao<|aa<|ab<|al 1<|ah (am rfl (jr (y':= -p.b2*nf k p) (z':=zc (-p.b2*nf k p) (zc p.b2 p.c)) (K8 (d2.m_) (hp.b2.m_) (hz2.m_) (by rw[FG hp];exact h0) hn) (show _=(p.a2-k.y)*nf k p from rfl) (Tl hp) (SO hp)))<|al 3<|aC (ai de rfl) rfl<|ag<|aa<|bZ 10 [11,999999] aU (by kernel_rfl) rfl rfl<|ap 1<|aj (am rfl (Oh j1 j2))<|ap 1<|aj (am rfl (jr (x':=nG k p) (y':=gF k p) (z':=zc (gF k p) p.c) (xN (d1.neg.m_) (hp.b1.neg.m_) (hz1.m_) (w1.m_) (w2.m_) (w3.m_) Ie) UB (TH hp) (Tg hp))) ?_
  refine ap 3<|ba (ai de rfl) rfl<|gz (fG dx rfl) rfl rfl rfl rfl<|bk<|bG<|ar<|aa<|ab<|al 1<|ah (aN (us:=([.i .i64 0]++(cR (nG k p)++cR (gF k p)++cR (zc (gF k p) p.c)))) AX nN rfl rfl rfl) ?_
  refine ag<|an ?_
  exact aq (a7 rD rfl ae)
theorem UN {c:Cv}(hc:CvV c) {p:Pt}(hp:GP p):Ok Tryz.prog 90 [.a (aB c),.a (au p)] [.a (kF (c.slp p))]:=by
 cases c with
 |seg l f t=>
  have hl:=hc.g.1
  have hf:=hc.g.2.1
  have ht:=hc.g.2.2
  show Ok _ _ _ [.a (kF (if l.b=0 then Slp.vt else .vl (-l.a/l.b) 0 0))]
  by_cases h0:l.b=0
  ·rw[if_pos h0];exact R4 hl hf ht hp ((oK hl hf ht (by have:=hc.sp;simpa [Cv.supp,Cv.p] using this) (by have:=hc.sq;simpa [Cv.supp,Cv.q] using this) hc.ne).2 h0) h0
  ·rw[if_neg h0];exact R1 hl hf ht hp (fun e=>h0 ((oK hl hf ht (by have:=hc.sp;simpa [Cv.supp,Cv.p] using this) (by have:=hc.sq;simpa [Cv.supp,Cv.q] using this) hc.ne).1 e)) h0
 |arc k w f t=>
  have hk:=hc.g.1
  have hf:=hc.g.2.1
  have ht:=hc.g.2.2
  show Ok _ _ _ [.a (kF (if fT p k.y=0 then Slp.st (if w then 1 else-1) else .vl (nG k p) (gF k p) (zc (gF k p) p.c)))]
  by_cases h0:fT p k.y=0
  ·rw[if_pos h0];exact Qg hk hf ht hp h0
  ·rw[if_neg h0];exact RD hk hf ht hp h0
end Go.Proofs.YtkmdgigkbhmilaaGreat
