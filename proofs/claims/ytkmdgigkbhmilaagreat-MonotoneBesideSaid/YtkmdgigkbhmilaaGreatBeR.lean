/-Plain:the point of a monotone curve at an x coordinate. -/
import Derived.Test.YtkmdgigkbhmilaaGreatBeQ
namespace Go.Proofs.YtkmdgigkbhmilaaGreat
open Go Go.RowKit
variable {w:Bool}{k:Ci}{c:Cv}{l:Ln}{f p t:Pt}{m x:Rat}{q xa y ya:Re}
theorem CT:type_of% @Bool.false_ne_true:=@Bool.false_ne_true
def sW (w:Bool):Rat:=if w then 1 else-1
def jT (k:Ci) (x:Rat):Rat:=k.q-(x-k.x)*(x-k.x)
def r9:Cv→Rat→Pt
 | .seg l _ _,x=>⟨x,0,(l.c-l.a*x)/l.b,0,0⟩
 | .arc k w _ _,x=>fW x 0 k.y (sW w) (jT k x)
def Si:Cv→Rat→List CellD
 | .seg l _ _,x=>cR ((l.c-l.a*x)/l.b)++cR 0++cR 0
 | .arc k w _ _,x=>if jp (jT k x) then cR (k.y+sW w*rt (jT k x))++cR 0++cR 0 else cR k.y++cR (sW w)++cR (zc (sW w) (jT k x))
theorem R1 (hs:jp (jT k x)=true):Si (.arc k w f t) x=cR (k.y+sW w*rt (jT k x))++cR 0++cR 0:=if_pos hs
theorem VQ (hs:jp (jT k x)=false):Si (.arc k w f t) x=cR k.y++cR (sW w)++cR (zc (sW w) (jT k x)):=if_neg (by rw[hs];decide)
theorem vO (c:Cv) (x:Rat):(Si c x).length=12:=by
 cases c with
 |seg l f t=>rfl
 |arc k w f t=>
  show(if jp (jT k x)=true then cR (k.y+sW w*rt (jT k x))++cR 0++cR 0 else cR k.y++cR (sW w)++cR (zc (sW w) (jT k x))).length=12
  split<;>rfl
def AB (c:Cv) (x:Rat):Bool:= !c.vert&&(decide (lp c.p x≤0)&&decide (0≤lp c.q x))
def tU (c:Cv) (x:Rat):Bool:=decide (lp c.p x≤0)&&decide (-lp c.q x≤0)
theorem uo:AB c x=(!c.vert&&tU c x):=by
 unfold AB tU
 grind
theorem EF (of:OnK k f) (ot:OnK k t) (h1:lp f x≤0) (h2:0≤lp t x):0≤jT k x:=by
 rw[li (b8 of)] at h1
 rw[li (b8 ot)] at h2
 have main: ∀(p:Pt),OnK k p→0≤aw ((pX p-Re.of x)*(pX p-Re.of k.x+(Re.of x-Re.of k.x)))→0≤jT k x:=fun p op h=>by
  have w:=ow op
  have e:Re.of (jT k x)=((pY p-Re.of k.y)*(pY p-Re.of k.y)+(pX p-Re.of x)*(pX p-Re.of k.x+(Re.of x-Re.of k.x)))+ -ri k p:=aS fun n=>by unfold jT ri;simp only[ao,ak,am,aE,aD];grind
  have h3:0≤aw ((pY p-Re.of k.y)*(pY p-Re.of k.y)):=by rw[aQ];rcases aU (pY p-Re.of k.y) with g|g|g<;>rw[g]<;>decide
  have h4:0≤aw (Re.of (jT k x)):=by
   rw[e,dP _ (by rw[br,w];rfl)]
   exact fR h3 h
  rw[cj] at h4
  apply gT
  intro g
  have:aR (jT k x) 0= -1:=by unfold aR;rw[if_pos (by grind)]
  omega
 by_cases hx:x-k.x<0
 ·refine main f of ?_
  have a:aw (Re.of x-Re.of k.x)= -1:=by
   rw[←xT];unfold aR;rw[if_pos (by grind)]
  rw[aQ]
  have c1:=aU (pX f-Re.of x)
  rcases c1 with g|g|g
  ·omega
  ·grind
  ·have e:pX f-Re.of k.x=(pX f-Re.of x)+(Re.of x-Re.of k.x):=aS fun n=>by simp only[ao,ak];grind
   have h5:aw (pX f-Re.of k.x)= -1:=by rw[e,iJ (by omega)];exact g
   have h6:aw (pX f-Re.of k.x+(Re.of x-Re.of k.x))= -1:=by rw[iJ (by omega)];exact h5
   grind
 ·refine main t ot ?_
  have a:0≤aw (Re.of x-Re.of k.x):=by
   rw[←xT];unfold aR;rw[if_neg (by grind)];split<;>decide
  rw[aQ]
  have h5:0≤aw (pX t-Re.of k.x):=by
   rw[show pX t-Re.of k.x=(pX t-Re.of x)+(Re.of x-Re.of k.x) from aS fun n=>by simp only[ao,ak];grind]
   exact fR h2 a
  have h6:=fR h5 a
  exact f9 h2 h6
theorem Ek (w:Bool):Rz 1 (sW w):=by
 unfold sW;cases w
 ·rw[if_neg (by decide)];exact jY.neg
 ·rw[if_pos rfl];exact jY
theorem Zw (h:w=true):((1:Int):Rat)=sW w:=by rw[h];rfl
theorem aae (h:w=false):((-1:Int):Rat)=sW w:=by rw[h];decide+kernel
theorem RC (w:Bool):sW w*sW w=1:=by cases w<;>decide+kernel
theorem Tz:rt 0=0:=by decide+kernel
theorem QX:jp 0=true:=by decide+kernel
theorem Pe (c:Cv) (x:Rat):pX (r9 c x)=Re.of x:=by
 cases c with
 |seg l f t=>exact Ih x _
 |arc k w f t=>
  show pX (fW x 0 k.y (sW w) (jT k x))=_
  unfold fW
  split
  ·have e:x+0*rt (jT k x)=x:=by grind
   rw[e]
   exact Ih x _
  ·exact aS fun n=>by unfold pX um aA;simp only[ao,am,aE];grind
theorem ZR (h0:0≤jT k x):aw ((pY (r9 (.arc k w f t) x)-Re.of k.y)*(pY (r9 (.arc k w f t) x)-Re.of k.y)-Re.of (jT k x))=0∧0≤aw (Re.of (sW w))*aw (pY (r9 (.arc k w f t) x)-Re.of k.y):=by
 have hw:aw (Re.of (sW w))*aw (Re.of (sW w))=1:=by cases w<;>(rw[cj];decide+kernel)
 show aw ((pY (fW x 0 k.y (sW w) (jT k x))-Re.of k.y)*(pY (fW x 0 k.y (sW w) (jT k x))-Re.of k.y)-Re.of (jT k x))=0∧0≤aw (Re.of (sW w))*aw (pY (fW x 0 k.y (sW w) (jT k x))-Re.of k.y)
 cases hs:jp (jT k x) with
 |true=>
  have e:fW x 0 k.y (sW w) (jT k x)=rP (x+0*rt (jT k x)) (k.y+sW w*rt (jT k x)):=by unfold fW;rw[hs];rfl
  rw[e,Lk]
  have e1:Re.of (k.y+sW w*rt (jT k x))-Re.of k.y=Re.of (sW w)*Re.of (rt (jT k x)):=aS fun n=>by simp only[ak,am,aE];grind
  rw[e1]
  have hr:rt (jT k x)*rt (jT k x)=jT k x:=by
   by_cases hz:jT k x=0
   ·rw[hz,Tz];grind
   ·exact IU (by grind) hs
  refine⟨?_,?_⟩
  ·rw[show Re.of (sW w)*Re.of (rt (jT k x))*(Re.of (sW w)*Re.of (rt (jT k x)))-Re.of (jT k x)=Re.of 0 from aS fun n=>by simp only[ak,am,aE];have:=RC w;grind,cj]
   decide+kernel
  ·rw[aQ,←Int.mul_assoc,hw,m8,cj]
   have:=Ab (jT k x)
   unfold aR;rw[if_neg (by grind)];split<;>decide
 |false=>
  have e:fW x 0 k.y (sW w) (jT k x)=⟨x,0,k.y,sW w,jT k x⟩:=by unfold fW;rw[hs];rfl
  rw[e]
  have e1:pY ⟨x,0,k.y,sW w,jT k x⟩-Re.of k.y=Re.of (sW w)*Re.rt (jT k x):=by
   unfold pY;rw[nB];exact aS fun n=>by simp only[ao,ak,am,aE];grind
  rw[e1]
  refine⟨?_,?_⟩
  ·rw[show Re.of (sW w)*Re.rt (jT k x)*(Re.of (sW w)*Re.rt (jT k x))-Re.of (jT k x)=Re.rt (jT k x)*Re.rt (jT k x)-Re.of (jT k x) from aS fun n=>by simp only[ak,am,aE];have:=RC w;grind]
   exact ng h0
  ·rw[aQ,←Int.mul_assoc,hw,m8]
   exact u5 _
theorem ns {x:Re}(h:aw x=0) (g:aw y=0):aw (x+y)=0:=by rw[jG h,g]
theorem b9 (y:Re) {x:Re}(h:aw x=0):aw (y*x)=0:=by rw[aQ,h,mH]
theorem wz {x:Re}(h:aw x=0):aw (-x)=0:=by rw[br,h];rfl
theorem abD {y:Rat}(h:aw (Re.of x-Re.of y)=0):x=y:=by
 rw[←xT] at h
 have:aR (x-y) 0=0:=by rw[lI];exact h
 have:=ij.1 this
 grind
theorem pp {x:Re}(h:aw (x*y)=0) (hx:aw x≠0):aw y=0:=by
 rw[aQ] at h
 exact(tS.1 h).resolve_left hx
theorem vW {q:Pt}(hp:GP p) (hq:GP q) (h:cP p q=0):aw (pX p-pX q)=0∧aw (pY p-pY q)=0:=by
 obtain⟨a,b⟩:=iM.1 h
 rw[jP (bz hp) (bz hq)] at a
 rw[EX (bz hp) (bz hq)] at b
 grind
theorem DP {y:Rat}(h:x=y):tD x y=true:=by unfold tD;rw[h,gF];rfl
theorem OV {y:Rat}(h:tD x y=true):x=y:=by
 have:=beq_iff_eq.1 h
 rw[xT] at this
 exact abD this
theorem Fw (hp:GP p) (h:jL p k.y≠0):aw (aA (tO k p) (jB k p) (zc (jB k p) p.c)*(pY p-Re.of k.y)+(pX p-Re.of k.x))=0:=by
 have hn:=EB hp h
 have hz:p.b2*p.b2*zc p.b2 p.c=p.b2*p.b2*p.c:=by
  by_cases e:p.b2=0
  ·grind
  ·rw[iD e]
 have hN:rL k p*((p.a2-k.y)*(p.a2-k.y)-p.b2*p.b2*p.c)=1:=by
  unfold rL yS
  grind
 have h1:tO k p*(p.a2-k.y)+jB k p*p.b2*p.c+(p.a1-k.x)=0:=by
  unfold tO jB
  grind
 have h2:tO k p*p.b2+jB k p*(p.a2-k.y)+p.b1=0:=by
  unfold tO jB
  grind
 have hr:=ng (bz hp)
 rw[show aA (tO k p) (jB k p) (zc (jB k p) p.c)=um (tO k p) (jB k p) p.c from rfl,nB]
 unfold pX pY
 rw[nB,nB]
 generalize tO k p=A at*
 generalize jB k p=B at*
 rw[show(Re.of A+Re.of B*Re.rt p.c)*(Re.of p.a2+Re.of p.b2*Re.rt p.c-Re.of k.y)+(Re.of p.a1+Re.of p.b1*Re.rt p.c-Re.of k.x)=Re.of (B*p.b2)*(Re.rt p.c*Re.rt p.c-Re.of p.c) from
  aS fun n=>by
   simp only[ao,ak,am,aE]
   grind]
 exact b9 _ hr
theorem T7 (op:OnK k p):aw ((pX p-Re.of k.x)*(pX p-Re.of k.x)+(pY p-Re.of k.y)*(pY p-Re.of k.y)-Re.of k.q)=0:=ow op
theorem acb (hp:GP p) (hx:Rz 148000 x):Ok Tryz.prog 76 [.a ((cR p.a1++cR p.b1++cR (zc p.b1 p.c))),.a ((cR x++cR 0++cR 0))] [.c (.i .i64 (lp p x))]:=
 ck (ny (hp.a1.mono (by decide)) (hp.b1.mono (by decide)) (fi (hp.c.mono (by decide)) (by decide)) (hx.mono (by decide)) (dL (by decide)) (dL (by decide)) ((hp.a1.sub hx).mono (by decide)) (ii (bz hp)) uC) (EI (ii (bz hp)))
theorem acl (hp:GP p) (hx:Rz 148000 x):Ok Tryz.prog 76 [.a ((cR x++cR 0++cR 0)),.a ((cR p.a1++cR p.b1++cR (zc p.b1 p.c)))] [.c (.i .i64 (-lp p x))]:=
 ck (ny (hx.mono (by decide)) (dL (by decide)) (dL (by decide)) (hp.a1.mono (by decide)) (hp.b1.mono (by decide)) (fi (hp.c.mono (by decide)) (by decide)) ((hx.sub hp.a1).mono (by decide)) uC (ii (bz hp))) (by
  rw[kX uC (ii (bz hp)),li (bz hp),←br]
  exact congrArg aw (aS fun n=>by unfold pX um aA;simp only[ao,ak,am,aE,aD];grind))
theorem O4 (hc:c.good) (hp:GP p):Ok Tryz.prog 52 [.a (ap c),.a ((cR p.a1++cR p.b1++cR (zc p.b1 p.c)))] [.c (.b (c.over p))]:=by
 refine bU Tryz.func52 rfl ?_
 refine cU 15 [] ?_
 refine aq (aV (us:=aj c.p) bv rfl rfl (fl _) rfl rfl) ?_
 refine aO rfl (mq) ?_
 refine aO rfl (xCX (cn hc) hp) ?_
 refine xi (bp rfl) (fun c1 hb1=>?_)
 cases c1
 ·refine ai ?_
  rw[show c.over p=false from by unfold Cv.over;rw[hb1];rfl]
  exact al ae
 ·refine aq (aV (us:=aj c.q) bv rfl rfl (f5 _) rfl rfl) ?_
  refine aO rfl (mq) ?_
  refine aO rfl (xCX hp (dy hc))<|ai ?_
  rw[show c.over p=decide (cx p c.q≤0) from by unfold Cv.over;rw[hb1];rfl]
  exact al ae
theorem yJ (hc:c.good) (hx:Rz 148000 x):Ok Tryz.prog 52 [.a (ap c),.a ((cR x++cR 0++cR 0))] [.c (.b (tU c x))]:=by
 refine bU Tryz.func52 rfl ?_
 refine cU 15 [] ?_
 refine aq (aV (us:=aj c.p) bv rfl rfl (fl _) rfl rfl) ?_
 refine aO rfl (mq) ?_
 refine aO rfl (acb (cn hc) hx) ?_
 refine xi (bp rfl) (fun c1 hb1=>?_)
 cases c1
 ·refine ai ?_
  rw[show tU c x=false from by unfold tU;rw[hb1];rfl]
  exact al ae
 ·refine aq (aV (us:=aj c.q) bv rfl rfl (f5 _) rfl rfl) ?_
  refine aO rfl (mq) ?_
  refine aO rfl (acl (dy hc) hx)<|ai ?_
  rw[show tU c x=decide (-lp c.q x≤0) from by unfold tU;rw[hb1];rfl]
  exact al ae
theorem WQ (vc:CvV (Cv.seg l f t)) (hp:GP p):Ok Tryz.prog 22 [.a (([.b false]++fm l++dA++[.b false]++aj f++aj t)),.a (aj p)] [.c (.i .i64 (ov (Cv.seg l f t) p)),.c (.i .i64 (oE (Cv.seg l f t) p))]:=by
 have hl:=vc.g.1
 have hf:=vc.g.2.1
 have ht:=vc.g.2.2
 have hgd:((Cv.seg l f t)).good:=vc.g
 have b1:=S7 l p
 have hpr:=gJ b1 (dK l.b 0)
 refine bU Tryz.func22 rfl ?_
 refine cU 6 [] ?_
 refine aq (gC aY rfl) ?_
 refine aO rfl (mq) ?_
 refine aO rfl (O4 (c:=(Cv.seg l f t)) vc.g hp) ?_
 refine dr rfl (fun hc1=>?_) (fun hc1=>?_)
 ·have o1: ¬((Cv.seg l f t)).over p=true:=by simpa using hc1
  refine ai ?_
  rw[show ov (Cv.seg l f t) p=0 from by unfold ov;rw[if_neg o1],show oE (Cv.seg l f t) p=1 from by unfold oE;rw[if_neg o1]]
  exact al (al ae)
 ·refine ar (gC aY rfl)<|ac rfl (A6 hl hf ht) ?_
  refine dr rfl (fun hc2=>?_) (fun hc2=>?_)
  ·refine cU 7 [] ?_
   refine aO rfl (rd) ?_
   refine aq (dx (aj t) bv rfl (by kernel_rfl))<|aO rfl (rd) ?_
   refine aO rfl (xCY hp ht) ?_
   refine dr rfl (fun hc3=>?_) (fun hc3=>?_)
   ·have o1:((Cv.seg l f t)).over p=true:=by simpa using hc1
    have v1:((Cv.seg l f t)).vert=true:=hc2
    refine ai ?_
    rw[show ov (Cv.seg l f t) p=1 from by unfold ov Ft;rw[if_pos o1,if_pos v1];exact if_pos (of_decide_eq_true hc3),show oE (Cv.seg l f t) p=0 from by unfold oE;rw[if_pos o1]]
    exact al (al ae)
   ·refine cU 7 [] ?_
    refine aO rfl (rd) ?_
    refine aq (dx (aj f) bv rfl (by kernel_rfl))<|aO rfl (rd) ?_
    refine aO rfl (xCY hp hf) ?_
    refine dr rfl (fun hc4=>?_) (fun hc4=>?_)
    ·have o1:((Cv.seg l f t)).over p=true:=by simpa using hc1
     have v1:((Cv.seg l f t)).vert=true:=hc2
     refine ai ?_
     rw[show ov (Cv.seg l f t) p= -1 from by unfold ov Ft;rw[if_pos o1,if_pos v1];exact(if_neg (of_decide_eq_false hc3)).trans (if_pos (of_decide_eq_true hc4)),show oE (Cv.seg l f t) p=0 from by unfold oE;rw[if_pos o1]]
     exact al (al ae)
    ·have o1:((Cv.seg l f t)).over p=true:=by simpa using hc1
     have v1:((Cv.seg l f t)).vert=true:=hc2
     refine ai ?_
     rw[show ov (Cv.seg l f t) p=0 from by unfold ov Ft;rw[if_pos o1,if_pos v1];exact(if_neg (of_decide_eq_false hc3)).trans (if_neg (of_decide_eq_false hc4)),show oE (Cv.seg l f t) p=0 from by unfold oE;rw[if_pos o1]]
     exact al (al ae)
  ·refine ar (bW jb rfl) ?_
   refine oC rfl ?_
   refine cU 11 [] ?_
   refine aq (dx (fm l) AI rfl (by kernel_rfl)) ?_
   refine aO rfl (YK hl hp) ?_
   refine aq (dx (cR l.b) bt rfl (by kernel_rfl)) ?_
   refine aO rfl (dm) ?_
   refine aq (cr ((j6 l p)*(aR l.b 0)) (dF (by omega) (by omega)) rfl) ?_
   have o1:((Cv.seg l f t)).over p=true:=by simpa using hc1
   have v1: ¬((Cv.seg l f t)).vert=true:=by rw[hc2];decide
   refine ai ?_
   rw[show ov (Cv.seg l f t) p=j6 l p*aR l.b 0 from by unfold ov Ft;rw[if_pos o1,if_neg v1],show oE (Cv.seg l f t) p=0 from by unfold oE;rw[if_pos o1]]
   exact al (al ae)
theorem Ym (vc:CvV (Cv.arc k w f t)) (hp:GP p):Ok Tryz.prog 22 [.a (([.b true]++dA++cg k++[.b w]++aj f++aj t)),.a (aj p)] [.c (.i .i64 (ov (Cv.arc k w f t) p)),.c (.i .i64 (oE (Cv.arc k w f t) p))]:=by
 have hk:=vc.g.1
 have hf:=vc.g.2.1
 have ht:=vc.g.2.2
 have hgd:((Cv.arc k w f t)).good:=vc.g
 have b1:=Kp k p
 refine bU Tryz.func22 rfl ?_
 refine cU 6 [] ?_
 refine aq (gC aY rfl) ?_
 refine aO rfl (mq) ?_
 refine aO rfl (O4 (c:=(Cv.arc k w f t)) vc.g hp) ?_
 refine dr rfl (fun hc1=>?_) (fun hc1=>?_)
 ·have o1: ¬((Cv.arc k w f t)).over p=true:=by simpa using hc1
  refine ai ?_
  rw[show ov (Cv.arc k w f t) p=0 from by unfold ov;rw[if_neg o1],show oE (Cv.arc k w f t) p=1 from by unfold oE;rw[if_neg o1]]
  exact al (al ae)
 ·refine ar (gC aY rfl) ?_
  refine ac rfl ((show Ok _ _ _ [.c (.b false)] from yq hk hf ht)) ?_
  refine mi rfl ?_
  refine ar (bW jb rfl) ?_
  refine mi rfl ?_
  refine cU 7 [] ?_
  refine aO rfl (rd) ?_
  refine aq (dx (cR k.y) bt rfl (by kernel_rfl))<|aO rfl (xRY hp (hk.y.m_))<|ar (bW jb rfl) ?_
  refine kT (bp rfl) (fun c2 hb2=>?_)
  cases c2
  ·refine mi rfl ?_
   refine ar (bW jb rfl) ?_
   refine dr rfl (fun hc3=>?_) (fun hc3=>?_)
   ·exact absurd hb2 (by rw[hc3];decide)
   ·refine dr rfl (fun hc4=>?_) (fun hc4=>?_)
    ·have o1:((Cv.arc k w f t)).over p=true:=by simpa using hc1
     refine ai ?_
     rw[show ov (Cv.arc k w f t) p=1 from by unfold ov Ft;rw[if_pos o1,if_neg (show ¬((Cv.arc k w f t)).vert=true from CT)];exact(if_neg (show ¬w=true from by rw[hb2];decide)).trans (if_pos (of_decide_eq_true hc4)),show oE (Cv.arc k w f t) p=0 from by unfold oE;rw[if_pos o1]]
     exact al (al ae)
    ·refine ar (dx (cg k) rg rfl (by kernel_rfl)) ?_
     refine ac rfl (Q1 hk hp) ?_
     have o1:((Cv.arc k w f t)).over p=true:=by simpa using hc1
     refine ai ?_
     rw[show ov (Cv.arc k w f t) p=qd k p from by unfold ov Ft;rw[if_pos o1,if_neg (show ¬((Cv.arc k w f t)).vert=true from CT)];exact(if_neg (show ¬w=true from by rw[hb2];decide)).trans (if_neg (of_decide_eq_false hc4)),show oE (Cv.arc k w f t) p=0 from by unfold oE;rw[if_pos o1]]
     exact al (al ae)
  ·refine dr rfl (fun hc5=>?_) (fun hc5=>?_)
   ·have o1:((Cv.arc k w f t)).over p=true:=by simpa using hc1
    refine ai ?_
    rw[show ov (Cv.arc k w f t) p= -1 from by unfold ov Ft;rw[if_pos o1,if_neg (show ¬((Cv.arc k w f t)).vert=true from CT)];exact(if_pos (show w=true from hb2)).trans (if_pos (of_decide_eq_true hc5)),show oE (Cv.arc k w f t) p=0 from by unfold oE;rw[if_pos o1]]
    exact al (al ae)
   ·refine ar (bW jb rfl) ?_
    refine dr rfl (fun hc6=>?_) (fun hc6=>?_)
    ·refine ar (dx (cg k) rg rfl (by kernel_rfl)) ?_
     refine ac rfl (Q1 hk hp) ?_
     refine ar (fG (r:= -qd k p) rfl (yR b1) rfl) ?_
     have o1:((Cv.arc k w f t)).over p=true:=by simpa using hc1
     refine ai ?_
     rw[show ov (Cv.arc k w f t) p= -qd k p from by unfold ov Ft;rw[if_pos o1,if_neg (show ¬((Cv.arc k w f t)).vert=true from CT)];exact(if_pos (show w=true from hb2)).trans (if_neg (of_decide_eq_false hc5)),show oE (Cv.arc k w f t) p=0 from by unfold oE;rw[if_pos o1]]
     exact al (al ae)
    ·exact absurd hb2 (by rw[hc6];decide)
theorem U3 (vc:CvV c) (hp:GP p):Ok Tryz.prog 22 [.a (ap c),.a (aj p)] [.c (.i .i64 (ov c p)),.c (.i .i64 (oE c p))]:=by
 cases c with
 |seg l f t=>exact WQ vc hp
 |arc k w f t=>exact Ym vc hp
theorem AN (hk:GK k) (hx:Rz 148000 x):Rz 300000 (jT k x):=(hk.q.sub ((hx.sub hk.x).mul (hx.sub hk.x))).mono (by decide)
theorem XO (vc:CvV (Cv.seg l f t)) (hx:Rz 148000 x) (hb:AB (Cv.seg l f t) x=false):Ok Tryz.prog 13 [.a (([.b false]++fm l++dA++[.b false]++aj f++aj t)),dR x] [.a (dA),.c (.i .i64 1)]:=by
 have hf:=vc.g.2.1
 have ht:=vc.g.2.2
 have hl:=vc.g.1
 have hB:=hb
 rw[uo] at hB
 refine bU Tryz.func13 rfl ?_
 refine cU 9 [] ?_
 refine aq (gC aY rfl) ?_
 refine aO rfl (A6 hl hf ht) ?_
 refine xi (bp rfl) (fun c1 hb1=>?_)
 cases c1
 ·refine aq (gC aY rfl) ?_
  refine aO rfl (eH) ?_
  refine aO rfl (yJ (c:=(Cv.seg l f t)) vc.g (hx.m_)) ?_
  refine dr rfl (fun hc2=>?_) (fun hc2=>?_)
  ·refine ar (aC (us:=dA) rG p6 rfl rfl rfl) ?_
   exact ai (a8 ez rfl (al ae))
  ·exact absurd hB (by rw[show(Cv.seg l f t).vert=false from hb1,show tU (Cv.seg l f t) x=true from by simpa using hc2];decide)
 ·refine oC rfl<|ar (aC (us:=dA) rG p6 rfl rfl rfl) ?_
  exact ai (a8 ez rfl (al ae))
theorem YJ (vc:CvV (Cv.seg l f t)) (hx:Rz 148000 x) (hb:AB (Cv.seg l f t) x=true):Ok Tryz.prog 13 [.a (([.b false]++fm l++dA++[.b false]++aj f++aj t)),dR x] [.a ((cR ((l.c-l.a*x)/l.b)++cR 0++cR 0)),.c (.i .i64 0)]:=by
 have hf:=vc.g.2.1
 have ht:=vc.g.2.2
 have hl:=vc.g.1
 have hB:=hb
 rw[uo] at hB
 refine bU Tryz.func13 rfl ?_
 refine cU 9 [] ?_
 refine aq (gC aY rfl) ?_
 refine aO rfl (A6 hl hf ht) ?_
 refine xi (bp rfl) (fun c1 hb1=>?_)
 cases c1
 ·refine aq (gC aY rfl) ?_
  refine aO rfl (eH) ?_
  refine aO rfl (yJ (c:=(Cv.seg l f t)) vc.g (hx.m_)) ?_
  refine dr rfl (fun hc2=>?_) (fun hc2=>?_)
  ·exact absurd hB (by rw[show tU (Cv.seg l f t) x=false from by simpa using hc2,pB];decide)
  ·have hv:cx f t≠0:=fun e=>absurd (show(Cv.seg l f t).vert=false from hb1) (by show ¬(cx f t==0)=false;rw[e];decide)
   have hb0:l.b≠0:=fun e=>hv ((B7 hl hf ht (by have:=vc.sp;simpa [Cv.supp,Cv.p] using this) (by have:=vc.sq;simpa [Cv.supp,Cv.q] using this) vc.ne).2 e)
   refine ar (bW jb rfl) ?_
   refine oC rfl ?_
   refine cU 19 [6,999999] ?_
   refine aq (dx (cR l.c) bt rfl (by kernel_rfl)) ?_
   refine aq (dx (cR l.a) bt rfl (by kernel_rfl)) ?_
   refine aO rfl (dh (aW (hl.a)) (aW hx)) ?_
   refine aO rfl (gU (aW (hl.c)) (aW (aF (hl.a) hx))) ?_
   refine aq (dx (cR l.b) bt rfl (by kernel_rfl)) ?_
   refine aO rfl (Cd ((hl.c.sub (hl.a.mul hx)).m_) (hl.b.m_) hb0) ?_
   refine DQ.mk<|jj (dZ bt rfl) rfl rfl rfl rfl<|dY ?_
   refine ac rfl (eH) ?_
   exact ai (a8 ez rfl (al ae))
 ·exact absurd hB (by rw[show(Cv.seg l f t).vert=true from hb1];exact CT)
theorem WR (vc:CvV (Cv.arc k w f t)) (hx:Rz 148000 x) (hb:AB (Cv.arc k w f t) x=false):Ok Tryz.prog 13 [.a (([.b true]++dA++cg k++[.b w]++aj f++aj t)),dR x] [.a (dA),.c (.i .i64 1)]:=by
 have hf:=vc.g.2.1
 have ht:=vc.g.2.2
 have hk:=vc.g.1
 have hB:=hb
 rw[uo] at hB
 refine bU Tryz.func13 rfl ?_
 refine cU 9 [] ?_
 refine aq (gC aY rfl) ?_
 refine aO rfl ((show Ok _ _ _ [.c (.b false)] from yq hk hf ht)) ?_
 refine aq (bp rfl) ?_
 refine aq (gC aY rfl) ?_
 refine aO rfl (eH) ?_
 refine aO rfl (yJ (c:=(Cv.arc k w f t)) vc.g (hx.m_)) ?_
 refine dr rfl (fun hc1=>?_) (fun hc1=>?_)
 ·refine ar (aC (us:=dA) rG p6 rfl rfl rfl) ?_
  exact ai (a8 ez rfl (al ae))
 ·exact absurd hB (by rw[show(Cv.arc k w f t).vert=false from rfl,show tU (Cv.arc k w f t) x=true from by simpa using hc1];decide)
theorem Ub (vc:CvV (Cv.arc k w f t)) (hx:Rz 148000 x) (hb:AB (Cv.arc k w f t) x=true) (hs:jp (jT k x)=true):Ok Tryz.prog 13 [.a (([.b true]++dA++cg k++[.b w]++aj f++aj t)),dR x] [.a ((cR (k.y+sW w*rt (jT k x))++cR 0++cR 0)),.c (.i .i64 0)]:=by
 have hf:=vc.g.2.1
 have ht:=vc.g.2.2
 have hk:=vc.g.1
 have hB:=hb
 rw[uo] at hB
 have ofk:OnK k f:=⟨hf,bD.1 vc.sp⟩
 have otk:OnK k t:=⟨ht,bD.1 vc.sq⟩
 have hm0: ¬jT k x<0:=by
  have hb2:=hb
  unfold AB at hb2
  rw[dT,dT] at hb2
  have:=EF ofk otk (of_decide_eq_true hb2.2.1) (of_decide_eq_true hb2.2.2)
  grind
 refine bU Tryz.func13 rfl ?_
 refine cU 9 [] ?_
 refine aq (gC aY rfl) ?_
 refine aO rfl ((show Ok _ _ _ [.c (.b false)] from yq hk hf ht)) ?_
 refine aq (bp rfl) ?_
 refine aq (gC aY rfl) ?_
 refine aO rfl (eH) ?_
 refine aO rfl (yJ (c:=(Cv.arc k w f t)) vc.g (hx.m_)) ?_
 refine dr rfl (fun hc1=>?_) (fun hc1=>?_)
 ·exact absurd hB (by rw[show tU (Cv.arc k w f t) x=false from by simpa using hc1,pB];decide)
 ·refine ar (bW jb rfl)<|mi rfl<|ar (dx (cR k.x) bt rfl (by kernel_rfl))<|ac rfl (gU (aW hx) (aW (hk.x)))<|ar (bW jb rfl) ?_
  refine dr rfl (fun hc2=>?_) (fun hc2=>?_)
  ·have e9:((1:Int):Rat)=sW w:=Zw hc2
   refine cU 15 [] ?_
   refine aq (dx (cR k.y) bt rfl (by kernel_rfl)) ?_
   refine aO rfl (cW (lg (by decide) (by decide)) e9) ?_
   refine aq (dx (cR k.q) bt rfl (by kernel_rfl)) ?_
   refine aO rfl (dh (aW (az hx (hk.x))) (aW (az hx (hk.x)))) ?_
   refine aO rfl (gU (aW (hk.q)) (aW (aF (az hx (hk.x)) (az hx (hk.x))))) ?_
   refine aO rfl (vP (c:=jT k x) (hk.y.m_) ((Ek w).m_) ((AN hk hx).m_) hm0 hs) ?_
   exact ai (a8 ez rfl (al ae))
  ·have e9:((-1:Int):Rat)=sW w:=aae hc2
   refine cU 15 [] ?_
   refine aq (dx (cR k.y) bt rfl (by kernel_rfl)) ?_
   refine aO rfl (cW (lg (by decide) (by decide)) e9) ?_
   refine aq (dx (cR k.q) bt rfl (by kernel_rfl)) ?_
   refine aO rfl (dh (aW (az hx (hk.x))) (aW (az hx (hk.x)))) ?_
   refine aO rfl (gU (aW (hk.q)) (aW (aF (az hx (hk.x)) (az hx (hk.x))))) ?_
   refine aO rfl (vP (c:=jT k x) (hk.y.m_) ((Ek w).m_) ((AN hk hx).m_) hm0 hs) ?_
   exact ai (a8 ez rfl (al ae))
theorem T8 (vc:CvV (Cv.arc k w f t)) (hx:Rz 148000 x) (hb:AB (Cv.arc k w f t) x=true) (hs:jp (jT k x)=false):Ok Tryz.prog 13 [.a (([.b true]++dA++cg k++[.b w]++aj f++aj t)),dR x] [.a ((cR k.y++cR (sW w)++cR (zc (sW w) (jT k x)))),.c (.i .i64 0)]:=by
 have hf:=vc.g.2.1
 have ht:=vc.g.2.2
 have hk:=vc.g.1
 have hB:=hb
 rw[uo] at hB
 have ofk:OnK k f:=⟨hf,bD.1 vc.sp⟩
 have otk:OnK k t:=⟨ht,bD.1 vc.sq⟩
 have hm0: ¬jT k x<0:=by
  have hb2:=hb
  unfold AB at hb2
  rw[dT,dT] at hb2
  have:=EF ofk otk (of_decide_eq_true hb2.2.1) (of_decide_eq_true hb2.2.2)
  grind
 refine bU Tryz.func13 rfl ?_
 refine cU 9 [] ?_
 refine aq (gC aY rfl) ?_
 refine aO rfl ((show Ok _ _ _ [.c (.b false)] from yq hk hf ht)) ?_
 refine aq (bp rfl) ?_
 refine aq (gC aY rfl) ?_
 refine aO rfl (eH) ?_
 refine aO rfl (yJ (c:=(Cv.arc k w f t)) vc.g (hx.m_)) ?_
 refine dr rfl (fun hc1=>?_) (fun hc1=>?_)
 ·exact absurd hB (by rw[show tU (Cv.arc k w f t) x=false from by simpa using hc1,pB];decide)
 ·refine ar (bW jb rfl)<|mi rfl<|ar (dx (cR k.x) bt rfl (by kernel_rfl))<|ac rfl (gU (aW hx) (aW (hk.x)))<|ar (bW jb rfl) ?_
  refine dr rfl (fun hc2=>?_) (fun hc2=>?_)
  ·have e9:((1:Int):Rat)=sW w:=Zw hc2
   refine cU 15 [] ?_
   refine aq (dx (cR k.y) bt rfl (by kernel_rfl)) ?_
   refine aO rfl (cW (lg (by decide) (by decide)) e9) ?_
   refine aq (dx (cR k.q) bt rfl (by kernel_rfl)) ?_
   refine aO rfl (dh (aW (az hx (hk.x))) (aW (az hx (hk.x)))) ?_
   refine aO rfl (gU (aW (hk.q)) (aW (aF (az hx (hk.x)) (az hx (hk.x))))) ?_
   refine aO rfl (wl (c:=jT k x) (hk.y.m_) ((Ek w).m_) ((AN hk hx).m_) hm0 hs) ?_
   exact ai (a8 ez rfl (al ae))
  ·have e9:((-1:Int):Rat)=sW w:=aae hc2
   refine cU 15 [] ?_
   refine aq (dx (cR k.y) bt rfl (by kernel_rfl)) ?_
   refine aO rfl (cW (lg (by decide) (by decide)) e9) ?_
   refine aq (dx (cR k.q) bt rfl (by kernel_rfl)) ?_
   refine aO rfl (dh (aW (az hx (hk.x))) (aW (az hx (hk.x)))) ?_
   refine aO rfl (gU (aW (hk.q)) (aW (aF (az hx (hk.x)) (az hx (hk.x))))) ?_
   refine aO rfl (wl (c:=jT k x) (hk.y.m_) ((Ek w).m_) ((AN hk hx).m_) hm0 hs) ?_
   exact ai (a8 ez rfl (al ae))
theorem IW (vc:CvV c) (hx:Rz 148000 x):Ok Tryz.prog 13 [.a (ap c),dR x] (if AB c x then[.a (Si c x),.c (.i .i64 0)] else[.a dA,.c (.i .i64 1)]):=by
 cases hb:AB c x with
 |false=>
  rw[if_neg (by decide)]
  cases c with
  |seg l f t=>exact XO vc hx hb
  |arc k w f t=>exact WR vc hx hb
 |true=>
  rw[if_pos rfl]
  cases c with
  |seg l f t=>exact YJ vc hx hb
  |arc k w f t=>
   cases hs:jp (jT k x) with
   |true=>rw[R1 hs];exact Ub vc hx hb hs
   |false=>rw[VQ hs];exact T8 vc hx hb hs
theorem aap (w:Bool):sW w≠0:=by cases w<;>decide+kernel
theorem aaC (h:jp m=false):m≠0:=fun e=>by rw[e,QX] at h;cases h
theorem oS {x:Re}(h:aw x=1) (g:0≤aw y):aw (x+y)=1:=by
 have h1:=uY (x:=x) (y:=y) (by omega) g
 have h2:=aU (x+y)
 omega
theorem wC {x:Re}(h:0≤aw x) (g:aw y=1):aw (x+y)=1:=by rw[yr];exact oS g h
theorem Gh {x:Re}(h:aw (x*y)=1) (hy:aw y=1):aw x=1:=by
 rw[aQ,hy] at h;omega
theorem ms {x:Re}(h:0≤aw x) (g:0≤aw y):0≤aw (x*y):=by
 rw[aQ];exact f9 h g
theorem oJ {x:Re}(h:aw x=1) (g:aw y=1):aw (x*y)=1:=by rw[aQ,h,g];rfl
theorem tZ (x:Re):0≤aw (x*x):=by
 rw[aQ]
 rcases aU x with h|h|h<;>rw[h]<;>decide
theorem dN {x z:Re}(e:x-y=z) (hz:aw z=0):aw x=aw y:=dJ (by rw[e];exact hz)
theorem fA {x:Re}(h:aw x=0) (g:aw y=0):aw (x-y)=0:=ns h (wz g)
theorem PC {p r a b:Re}(h:aw (p*b-r*a)≠0):aw (a*a+b*b)=1:=by
 obtain⟨h1,h2⟩:=LX a b
 have h3:=aU (a*a+b*b)
 rcases h3 with h3|h3|h3
 ·grind
 ·obtain⟨z1,z2⟩:=h2.1 h3
  exact absurd (fA (b9 p z2) (b9 r z1)) h
 grind
theorem GI {x1 y1 x2 y2:Re}(n1:aw (x1*x1+y1*y1-q)=0) (n2:aw (x2*x2+y2*y2-q)=0) (na:aw (xa*xa+ya*ya-q)=0) (hy1:0≤aw y1) (hy2:0≤aw y2) (hx:aw (x2-x1)=1)
 (hc:aw ((x2-x1)*(ya-y1)-(y2-y1)*(xa-x1))=1):aw (xa-x1)=1∧aw (x2-xa)=1∧aw ya=1:=by
 have w0:aw ((x2-x1)*(x2-x1)+(y2-y1)*(y2-y1))=1:=oS (oJ hx hx) (tZ _)
 have v0:aw ((xa-x1)*(xa-x1)+(ya-y1)*(ya-y1))=1:=PC (p:=x2-x1) (r:=y2-y1) (by rw[hc];decide)
 have u0:aw ((xa-x2)*(xa-x2)+(ya-y2)*(ya-y2))=1:=PC (p:=x2-x1) (r:=y2-y1) (by
  rw[show(x2-x1)*(ya-y2)-(y2-y1)*(xa-x2)=(x2-x1)*(ya-y1)-(y2-y1)*(xa-x1) from(aS fun n=>by simp only[ak,am];grind),hc];decide)
 have a1:aw (xa-x1)=1:=by
  refine Gh (y:=(x2-x1)*(x2-x1)+(y2-y1)*(y2-y1)) ?_ w0
  rw[dN (y:=(y1+y1)*((x2-x1)*(ya-y1)-(y2-y1)*(xa-x1))+(x2-x1)*((xa-x1)*(xa-x1)+(ya-y1)*(ya-y1)))
   (z:=(xa-x1)*((x2*x2+y2*y2-q)-(x1*x1+y1*y1-q))-(x2-x1)*((xa*xa+ya*ya-q)-(x1*x1+y1*y1-q)))
   ((aS fun n=>by simp only[ao,ak,am];grind)) (fA (b9 _ (fA n2 n1)) (b9 _ (fA na n1)))]
  exact wC (ms (fR hy1 hy1) (by rw[hc];decide)) (oJ hx v0)
 have a2:aw (x2-xa)=1:=by
  refine Gh (y:=(x2-x1)*(x2-x1)+(y2-y1)*(y2-y1)) ?_ w0
  rw[dN (y:=(y2+y2)*((x2-x1)*(ya-y1)-(y2-y1)*(xa-x1))+(x2-x1)*((xa-x2)*(xa-x2)+(ya-y2)*(ya-y2)))
   (z:=(x1-x2)*((xa*xa+ya*ya-q)-(x2*x2+y2*y2-q))-(xa-x2)*((x1*x1+y1*y1-q)-(x2*x2+y2*y2-q)))
   ((aS fun n=>by simp only[ao,ak,am];grind)) (fA (b9 _ (fA na n2)) (b9 _ (fA n1 n2)))]
  exact wC (ms (fR hy2 hy2) (by rw[hc];decide)) (oJ hx u0)
 refine⟨a1,a2,?_⟩
 refine Gh (y:=x2-x1) ?_ hx
 rw[show ya*(x2-x1)=((x2-x1)*(ya-y1)-(y2-y1)*(xa-x1))+(y1*(x2-xa)+y2*(xa-x1)) from(aS fun n=>by simp only[ao,ak,am];grind)]
 exact oS hc (fR (ms hy1 (by rw[a2];decide)) (ms hy2 (by rw[a1];decide)))
structure LinP (a b n V r xa ya:Re):Prop where
 x:aw (xa*n+(V*a+b*r))=0
 y:aw (ya*n+(V*b-a*r))=0
section
variable {a b n V r q:Re}(hn:n=a*a+b*b) (n0:aw n=1) (hr:aw (r*r+V*V-n*q)=0)
include hn n0 hr
theorem LinP.on (h:LinP a b n V r xa ya):aw (xa*xa+ya*ya-q)=0:=by
 refine pp (x:=n*n) ?_ (by rw[oJ n0 n0];decide)
 rw[dN (y:=n*(r*r+V*V-n*q)) (z:=(xa*n-(V*a+b*r))*(xa*n+(V*a+b*r))+(ya*n-(V*b-a*r))*(ya*n+(V*b-a*r))) (by subst hn;exact(aS fun n=>by simp only[ao,ak,am];grind)) (ns (b9 _ h.x) (b9 _ h.y))]
 exact b9 _ hr
end
theorem Ey {p:Re}(hp:0≤aw p) (hq:0≤aw q) (h:aw (q*q-p*p)=0):aw (q-p)=0:=by
 rcases aU (q+p) with e|e|e
 ·refine pp (x:=q+p) ?_ (by rw[e];decide)
  rw[show(q+p)*(q-p)=q*q-p*p from(aS fun n=>by simp only[ao,ak,am];grind)];exact h
 ·have h1:aw q=0:=by
   apply gT
   intro hn
   have:=uY (x:=q) (y:=p) (by omega) hp
   omega
  have h2:aw p=0:=by rw[←jG h1 p];exact e
  exact fA h1 h2
 ·have:=fR hq hp;omega
theorem Zv {c:Rat}(h0:0<c) (hs:jp c=true):aw (Re.of (rt c)-Re.rt c)=0:=by
 refine Ey (u5 c) ?_ ?_
 ·rw[cj];exact kH (Ab c)
 ·rw[dN (y:=Re.of (rt c*rt c)-Re.of c) (z:= -(Re.rt c*Re.rt c-Re.of c)) ((aS fun n=>by simp only[ak,am,aE,aD];grind)) (wz (ng (Rat.le_of_lt h0))),IU h0 hs]
  exact lK _
theorem Km {a1 b1 a2 b2 c:Rat}(h0:0<c):aw (pX (fW a1 b1 a2 b2 c)-(Re.of a1+Re.of b1*Re.rt c))=0∧aw (pY (fW a1 b1 a2 b2 c)-(Re.of a2+Re.of b2*Re.rt c))=0:=by
 cases hs:jp c with
 |true=>
  have e:fW a1 b1 a2 b2 c=⟨a1+b1*rt c,0,a2+b2*rt c,0,0⟩:=by unfold fW;rw[hs];rfl
  have hr:=Zv h0 hs
  rw[e]
  refine⟨?_,?_⟩
  ·show aw (um (a1+b1*rt c) 0 0-_)=0
   rw[nB,show Re.of (a1+b1*rt c)+Re.of 0*Re.rt 0-(Re.of a1+Re.of b1*Re.rt c)=Re.of b1*(Re.of (rt c)-Re.rt c) from(aS fun n=>by simp only[ao,ak,am,aE];grind)]
   exact b9 _ hr
  ·show aw (um (a2+b2*rt c) 0 0-_)=0
   rw[nB,show Re.of (a2+b2*rt c)+Re.of 0*Re.rt 0-(Re.of a2+Re.of b2*Re.rt c)=Re.of b2*(Re.of (rt c)-Re.rt c) from(aS fun n=>by simp only[ao,ak,am,aE];grind)]
   exact b9 _ hr
 |false=>
  have e:fW a1 b1 a2 b2 c=⟨a1,b1,a2,b2,c⟩:=by unfold fW;rw[hs];rfl
  rw[e]
  refine⟨?_,?_⟩
  ·show aw (um a1 b1 c-_)=0
   rw[nB];exact lK _
  ·show aw (um a2 b2 c-_)=0
   rw[nB];exact lK _
def rX (k:Ci) (p:Pt):Re:=pX p-Re.of k.x
def rY (k:Ci) (p:Pt):Re:=pY p-Re.of k.y
theorem LS {X R:Re}{f u n k V a b:Rat}(g:aw (X-(Re.of f+Re.of u*R))=0) (e1:f*n=k*n-V*a) (e3: -u*n=b):aw ((X-Re.of k)*Re.of n+(Re.of V*Re.of a+Re.of b*R))=0:=by
 rw[show(X-Re.of k)*Re.of n+(Re.of V*Re.of a+Re.of b*R)=Re.of n*(X-(Re.of f+Re.of u*R)) from(aS fun n=>by simp only[ao,ak,am,aE];grind)]
 exact b9 _ g
section
variable {l:Ln}{k:Ci}(hn:dE l≠0) (h0:0<fz l k)
include hn
theorem QW:xU l k*dE l=k.x*dE l-gM l k.x k.y*l.a∧yL l k*dE l=k.y*dE l-gM l k.x k.y*l.b:=by
 unfold xU yL
 grind
include h0
theorem KW:LinP (Re.of l.a) (Re.of l.b) (Re.of (dE l)) (Re.of (gM l k.x k.y)) (Re.rt (fz l k)) (rX k (Jj l k)) (rY k (Jj l k)):=by
 obtain⟨g1,g2⟩:=Km (a1:=xU l k) (b1:= -(l.b/dE l)) (a2:=yL l k) (b2:= -(-l.a/dE l)) h0
 obtain⟨e1,e2⟩:=QW (k:=k) hn
 refine⟨LS g1 e1 (by grind),?_⟩
 have h:=LS (b:= -l.a) g2 e2 (by grind)
 rw[show rY k (Jj l k)*Re.of (dE l)+(Re.of (gM l k.x k.y)*Re.of l.b-Re.of l.a*Re.rt (fz l k))=(pY (Jj l k)-Re.of k.y)*Re.of (dE l)+(Re.of (gM l k.x k.y)*Re.of l.b+Re.of (-l.a)*Re.rt (fz l k)) from by unfold rY;exact(aS fun n=>by simp only[ao,ak,am,aE];grind)]
 exact h
theorem KH:LinP (Re.of l.a) (Re.of l.b) (Re.of (dE l)) (Re.of (gM l k.x k.y)) (-Re.rt (fz l k)) (rX k (GH l k)) (rY k (GH l k)):=by
 obtain⟨g1,g2⟩:=Km (a1:=xU l k) (b1:=l.b/dE l) (a2:=yL l k) (b2:= -l.a/dE l) h0
 obtain⟨e1,e2⟩:=QW (k:=k) hn
 have h1:=LS (b:= -l.b) g1 e1 (by grind)
 have h2:=LS (b:=l.a) g2 e2 (by grind)
 refine⟨?_,?_⟩
 ·rw[show rX k (GH l k)*Re.of (dE l)+(Re.of (gM l k.x k.y)*Re.of l.a+Re.of l.b* -Re.rt (fz l k))=(pX (GH l k)-Re.of k.x)*Re.of (dE l)+(Re.of (gM l k.x k.y)*Re.of l.a+Re.of (-l.b)*Re.rt (fz l k)) from by unfold rX;exact(aS fun n=>by simp only[ao,ak,am,aE,aD];grind)]
  exact h1
 ·rw[show rY k (GH l k)*Re.of (dE l)+(Re.of (gM l k.x k.y)*Re.of l.b-Re.of l.a* -Re.rt (fz l k))=(pY (GH l k)-Re.of k.y)*Re.of (dE l)+(Re.of (gM l k.x k.y)*Re.of l.b+Re.of l.a*Re.rt (fz l k)) from by unfold rY;exact(aS fun n=>by simp only[ao,ak,am,aE,aD];grind)]
  exact h2
end
theorem Qq:Re.of l.a*rX k p+Re.of l.b*rY k p+Re.of (gM l k.x k.y)=sj l p:=by
 unfold rX rY sj gM;exact(aS fun n=>by simp only[ao,ak,am,aE];grind)
theorem Jx (h0:0<fz l k):Jj l k∈iu l k∧GH l k∈iu l k:=by
 have h1:aR (fz l k) 0=1:=by
  have:=uI.2 h0
  have:=(dK (fz l k) 0).2
  omega
 unfold iu
 grind
end Go.Proofs.YtkmdgigkbhmilaaGreat
