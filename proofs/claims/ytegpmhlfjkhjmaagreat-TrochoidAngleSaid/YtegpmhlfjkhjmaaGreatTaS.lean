/-Within,above,at:the reference. -/
import Derived.Test.YtegpmhlfjkhjmaaGreatTaR
namespace Go.Proofs.YtegpmhlfjkhjmaaGreat
open Go Go.RowKit
variable {w:Bool}{k:Ci}{P Q n q:Int}{l:Ln}{K h ka kb km:Nat}{f p t:Pt}{B C M U V a b c m x y z:Rat}{S S':Rat→Prop}{X Y u u' v:Re}
theorem qQ:type_of% @Rat.mul_le_mul_of_nonneg_right:=@Rat.mul_le_mul_of_nonneg_right
theorem tW:type_of% @Rat.mul_le_mul_of_nonneg_left:=@Rat.mul_le_mul_of_nonneg_left
theorem ui:type_of% @Rat.mul_one:=@Rat.mul_one
theorem wn:type_of% @Rat.mul_lt_mul_of_pos_right:=@Rat.mul_lt_mul_of_pos_right
theorem Lw (w:Bool):sW w≠0:=by cases w<;>decide+kernel
theorem RS (h:kg m=false):m≠0:=fun e=>by rw[e,Rf] at h;cases h
theorem XB (h:kg m=false):rB (sW w) m=sW w:=abM (Lw w) (RS h)
theorem Xv (h:kg m=false):rC (sW w) m=zc (sW w) m:=by unfold rC;rw[if_neg (fun e=>e.elim (Lw w) (RS h)),yU (Lw w)]
theorem adP (hp:GP p) (hx:Rz 14000 x):Ok Tryz.prog 83 [.a ((cR p.a1++cR p.b1++cR (zc p.b1 p.c))),.a ((cR x++cR 0++cR 0))] [.c (.i .i64 (lu p x))]:=cb (Ak (hp.a1.mono (by decide)) (hp.b1.mono (by decide)) (Rz.zc (hp.c.mono (by decide)) (by decide)) (hx.mono (by decide)) (dW (by decide)) (dW (by decide))) (Cn (lk (cg hp)))
theorem ad7 (hp:GP p) (hx:Rz 14000 x):Ok Tryz.prog 83 [.a ((cR x++cR 0++cR 0)),.a ((cR p.a1++cR p.b1++cR (zc p.b1 p.c)))] [.c (.i .i64 (-lu p x))]:=cb (Ak (hx.mono (by decide)) (dW (by decide)) (dW (by decide)) (hp.a1.mono (by decide)) (hp.b1.mono (by decide)) (Rz.zc (hp.c.mono (by decide)) (by decide))) (by
 rw[nL tQ (lk (cg hp)),nG (cg hp),←bG]
 exact congrArg aB (aM fun n=>by unfold pX xG az;simp only[aD,aj,aE,aK,aV];grind))
theorem Dh {c:Cv}(hc:c.good) (hx:Rz 14000 x):Ok Tryz.prog 341 [.a (aZ c),.a ((cR x++cR 0++cR 0))] [.c (.b (kY c x))]:=by
 refine b9 Tryz.func341 rfl<|dF 15 [] ?_
 refine aq (cD (us:=aw c.p) cn rfl rfl (sj _) rfl rfl) ?_
 refine aI rfl (vt) ?_
 refine aI rfl (adP (kO hc) hx) ?_
 refine D5 (bJ rfl) (fun c1 hb1=>?_)
 cases c1
 ·refine ai ?_
  rw[show kY c x=false from by unfold kY;rw[hb1];rfl]
  exact ak ag
 ·refine aq (cD (us:=aw c.q) cn rfl rfl (wj _) rfl rfl) ?_
  refine aI rfl (vt)<|aI rfl (ad7 (tK hc) hx)<|ai ?_
  rw[show kY c x=decide (-lu c.q x≤0) from by unfold kY;rw[hb1];rfl]
  exact ak ag
theorem Yx (vc:CvV (Cv.seg l f t)) (hx:Rz 14000 x) (hb:yn (Cv.seg l f t) x=false):Ok Tryz.prog 271 [.a (([.b false]++oW l++w9++[.b false]++aw f++aw t)),dR x] [.a (w9),.c (.i .i64 1)]:=by
 have hf:=vc.g.2.1
 have ht:=vc.g.2.2
 have hl:=vc.g.1
 have hB:=hb
 rw[l6] at hB
 refine b9 Tryz.func271 rfl<|dF 9 [] ?_
 refine aq (j5 cG rfl) ?_
 refine aI rfl (Gj hl hf ht) ?_
 refine D5 (bJ rfl) (fun c1 hb1=>?_)
 cases c1
 ·refine aq (j5 cG rfl) ?_
  refine aI rfl (fF) ?_
  refine aI rfl (Dh (c:=(Cv.seg l f t)) vc.g (hx.m_)) ?_
  refine dS rfl (fun hc2=>?_) (fun hc2=>?_)
  ·refine ar (aF (us:=w9) nA lW rfl rfl rfl) ?_
   exact ai (bj d9 rfl (ak ag))
  ·exact absurd hB (by rw[show(Cv.seg l f t).vert=false from hb1,show kY (Cv.seg l f t) x=true from by simpa using hc2];decide)
 ·refine lr rfl<|ar (aF (us:=w9) nA lW rfl rfl rfl) ?_
  exact ai (bj d9 rfl (ak ag))
theorem YV (vc:CvV (Cv.seg l f t)) (hx:Rz 14000 x) (hb:yn (Cv.seg l f t) x=true):Ok Tryz.prog 271 [.a (([.b false]++oW l++w9++[.b false]++aw f++aw t)),dR x] [.a ((cR ((l.c-l.a*x)/l.b)++cR 0++cR 0)),.c (.i .i64 0)]:=by
 have hf:=vc.g.2.1
 have ht:=vc.g.2.2
 have hl:=vc.g.1
 have hB:=hb
 rw[l6] at hB
 refine b9 Tryz.func271 rfl<|dF 9 [] ?_
 refine aq (j5 cG rfl) ?_
 refine aI rfl (Gj hl hf ht) ?_
 refine D5 (bJ rfl) (fun c1 hb1=>?_)
 cases c1
 ·refine aq (j5 cG rfl) ?_
  refine aI rfl (fF) ?_
  refine aI rfl (Dh (c:=(Cv.seg l f t)) vc.g (hx.m_)) ?_
  refine dS rfl (fun hc2=>?_) (fun hc2=>?_)
  ·exact absurd hB (by rw[show kY (Cv.seg l f t) x=false from by simpa using hc2,mX];decide)
  ·have hv:cx f t≠0:=fun e=>absurd (show(Cv.seg l f t).vert=false from hb1) (by show ¬(cx f t==0)=false;rw[e];decide)
   have hb0:l.b≠0:=fun e=>hv ((J6 hl hf ht (by have:=vc.sp;simpa [Cv.supp,Cv.p] using this) (by have:=vc.sq;simpa [Cv.supp,Cv.q] using this) vc.ne).2 e)
   refine ar (lp sK rfl)<|lr rfl<|dF 19 [6,999999] ?_
   refine aq (fv (cR l.c) bU rfl (by kernel_rfl)) ?_
   refine aq (fv (cR l.a) bU rfl (by kernel_rfl)) ?_
   refine aI rfl (ce (bk (hl.a)) (bk hx)) ?_
   refine aI rfl (fG (bk (hl.c)) (bk (a8 (hl.a) hx))) ?_
   refine aq (fv (cR l.b) bU rfl (by kernel_rfl)) ?_
   refine aI rfl (oM ((hl.c.sub (hl.a.mul hx)).m_) (hl.b.m_) hb0) ?_
   refine DQ.mk<|gD (eQ bU rfl) rfl rfl rfl rfl<|dP ?_
   refine ac rfl (fF) ?_
   exact ai (bj d9 rfl (ak ag))
 ·exact absurd hB (by rw[show(Cv.seg l f t).vert=true from hb1];exact Bool.false_ne_true)
theorem YX (vc:CvV (Cv.arc k w f t)) (hx:Rz 14000 x) (hb:yn (Cv.arc k w f t) x=false):Ok Tryz.prog 271 [.a (([.b true]++rx++bT k++[.b w]++aw f++aw t)),dR x] [.a (w9),.c (.i .i64 1)]:=by
 have hf:=vc.g.2.1
 have ht:=vc.g.2.2
 have hk:=vc.g.1
 have hB:=hb
 rw[l6] at hB
 refine b9 Tryz.func271 rfl<|dF 9 [] ?_
 refine aq (j5 cG rfl) ?_
 refine aI rfl ((show Ok _ _ _ [.c (.b false)] from B8 hk hf ht)) ?_
 refine aq (bJ rfl) ?_
 refine aq (j5 cG rfl) ?_
 refine aI rfl (fF) ?_
 refine aI rfl (Dh (c:=(Cv.arc k w f t)) vc.g (hx.m_)) ?_
 refine dS rfl (fun hc1=>?_) (fun hc1=>?_)
 ·refine ar (aF (us:=w9) nA lW rfl rfl rfl) ?_
  exact ai (bj d9 rfl (ak ag))
 ·exact absurd hB (by rw[show(Cv.arc k w f t).vert=false from rfl,show kY (Cv.arc k w f t) x=true from by simpa using hc1];decide)
theorem TL (vc:CvV (Cv.arc k w f t)) (hx:Rz 14000 x) (hb:yn (Cv.arc k w f t) x=true) (hs:kg (iB k x)=true):Ok Tryz.prog 271 [.a (([.b true]++rx++bT k++[.b w]++aw f++aw t)),dR x] [.a ((cR (k.y+sW w*rt (iB k x))++cR 0++cR 0)),.c (.i .i64 0)]:=by
 have hf:=vc.g.2.1
 have ht:=vc.g.2.2
 have hk:=vc.g.1
 have hB:=hb
 rw[l6] at hB
 have ofk:OnK k f:=⟨hf,bK.1 vc.sp⟩
 have otk:OnK k t:=⟨ht,bK.1 vc.sq⟩
 have hm0: ¬iB k x<0:=by
  have hb2:=hb
  unfold yn at hb2
  rw[di,di] at hb2
  have:=AT ofk otk (of_decide_eq_true hb2.2.1) (of_decide_eq_true hb2.2.2)
  grind
 refine eo Tryz.func271 64 [.cell 4 129,.tmp 5] rfl<|ae<|ah<|ae<|ae<|cX 9 [] ?_
 refine aq (j5 cG rfl) ?_
 refine aI rfl ((show Ok _ _ _ [.c (.b false)] from B8 hk hf ht)) ?_
 refine aq (bJ rfl) ?_
 refine aq (j5 cG rfl) ?_
 refine aI rfl (fF) ?_
 refine aI rfl (Dh (c:=(Cv.arc k w f t)) vc.g (hx.m_)) ?_
 refine aP rfl (fun hc1=>?_) (fun hc1=>?_)
 ·exact absurd hB (by rw[show kY (Cv.arc k w f t) x=false from by simpa using hc1,mX];decide)
 ·refine aA<|ae<|ae<|ah ?_
  refine ar (lp sK rfl) ?_
  refine bh rfl<|aA<|ae<|ah ?_
  refine ar (fv (cR k.x) bU rfl (by kernel_rfl)) ?_
  refine ac rfl (fG (bk hx) (bk (hk.x)))<|ae<|ah ?_
  refine ac rfl (tj (by decide) (by decide)) ?_
  refine ae<|ae<|ah ?_
  refine ar (lp sK rfl) ?_
  refine aP rfl (fun hc2=>?_) (fun hc2=>?_)
  ·have e9:((1:Int):Rat)=sW w:=VK hc2
   refine ah<|ac rfl (kJ (tj (by decide) (by decide)) e9) ?_
   refine ae<|cX 14 [] ?_
   refine aq (fv (cR k.y) bU rfl (by kernel_rfl)) ?_
   refine aq (fv (cR k.q) bU rfl (by kernel_rfl)) ?_
   refine aI rfl (ce (bk (df hx (hk.x))) (bk (df hx (hk.x)))) ?_
   refine aI rfl (fG (bk (hk.q)) (bk (a8 (df hx (hk.x)) (df hx (hk.x))))) ?_
   refine aI rfl (Db (c:=iB k x) (hk.y.m_) ((xL w).m_) ((rd hk (hx.m_)).m_) (fun h=>absurd h hm0) hs)<|ba ?_
   exact ai (bj d9 rfl (ak ag))
  ·have e9:((-1:Int):Rat)=sW w:=Tz hc2
   refine nH (σ':=⟨64,[(2,.p 2 0),(3,.p 3 0),(4,.p 4 0),(8,.p 8 0),(9,.p 9 0)],[(2,49,([.b true]++rx++bT k++[.b w]++aw f++aw t)),(3,38,cR x),(4,129,w9),(8,38,cR (x-k.x)),(9,38,cR (sW w))]⟩) (ap (bo rfl) ⟨rfl,rfl,rfl,rfl,congrArg (fun q=>some (38,cR q)) e9,trivial⟩ rfl) ?_
   refine aA<|ae<|cX 14 [] ?_
   refine aq (fv (cR k.y) bU rfl (by kernel_rfl)) ?_
   refine aq (fv (cR k.q) bU rfl (by kernel_rfl)) ?_
   refine aI rfl (ce (bk (df hx (hk.x))) (bk (df hx (hk.x)))) ?_
   refine aI rfl (fG (bk (hk.q)) (bk (a8 (df hx (hk.x)) (df hx (hk.x))))) ?_
   refine aI rfl (Db (c:=iB k x) (hk.y.m_) ((xL w).m_) ((rd hk (hx.m_)).m_) (fun h=>absurd h hm0) hs)<|ba ?_
   exact ai (bj d9 rfl (ak ag))
theorem TT (vc:CvV (Cv.arc k w f t)) (hx:Rz 14000 x) (hb:yn (Cv.arc k w f t) x=true) (hs:kg (iB k x)=false):Ok Tryz.prog 271 [.a (([.b true]++rx++bT k++[.b w]++aw f++aw t)),dR x] [.a ((cR k.y++cR (sW w)++cR (zc (sW w) (iB k x)))),.c (.i .i64 0)]:=by
 have hf:=vc.g.2.1
 have ht:=vc.g.2.2
 have hk:=vc.g.1
 have hB:=hb
 rw[l6] at hB
 have ofk:OnK k f:=⟨hf,bK.1 vc.sp⟩
 have otk:OnK k t:=⟨ht,bK.1 vc.sq⟩
 have hm0: ¬iB k x<0:=by
  have hb2:=hb
  unfold yn at hb2
  rw[di,di] at hb2
  have:=AT ofk otk (of_decide_eq_true hb2.2.1) (of_decide_eq_true hb2.2.2)
  grind
 refine eo Tryz.func271 64 [.cell 4 129,.tmp 5] rfl<|ae<|ah<|ae<|ae<|cX 9 [] ?_
 refine aq (j5 cG rfl) ?_
 refine aI rfl ((show Ok _ _ _ [.c (.b false)] from B8 hk hf ht)) ?_
 refine aq (bJ rfl) ?_
 refine aq (j5 cG rfl) ?_
 refine aI rfl (fF) ?_
 refine aI rfl (Dh (c:=(Cv.arc k w f t)) vc.g (hx.m_)) ?_
 refine aP rfl (fun hc1=>?_) (fun hc1=>?_)
 ·exact absurd hB (by rw[show kY (Cv.arc k w f t) x=false from by simpa using hc1,mX];decide)
 ·refine aA<|ae<|ae<|ah ?_
  refine ar (lp sK rfl) ?_
  refine bh rfl<|aA<|ae<|ah ?_
  refine ar (fv (cR k.x) bU rfl (by kernel_rfl)) ?_
  refine ac rfl (fG (bk hx) (bk (hk.x)))<|ae<|ah ?_
  refine ac rfl (tj (by decide) (by decide)) ?_
  refine ae<|ae<|ah ?_
  refine ar (lp sK rfl) ?_
  refine aP rfl (fun hc2=>?_) (fun hc2=>?_)
  ·have e9:((1:Int):Rat)=sW w:=VK hc2
   refine ah<|ac rfl (kJ (tj (by decide) (by decide)) e9) ?_
   refine ae<|cX 14 [] ?_
   refine aq (fv (cR k.y) bU rfl (by kernel_rfl)) ?_
   refine aq (fv (cR k.q) bU rfl (by kernel_rfl)) ?_
   refine aI rfl (ce (bk (df hx (hk.x))) (bk (df hx (hk.x)))) ?_
   refine aI rfl (fG (bk (hk.q)) (bk (a8 (df hx (hk.x)) (df hx (hk.x))))) ?_
   refine aI rfl (zo (Dk (c:=iB k x) (hk.y.m_) ((xL w).m_) ((rd hk (hx.m_)).m_) (fun h=>absurd h hm0) hs) rfl (XB hs) (Xv hs))<|ba ?_
   exact ai (bj d9 rfl (ak ag))
  ·have e9:((-1:Int):Rat)=sW w:=Tz hc2
   refine nH (σ':=⟨64,[(2,.p 2 0),(3,.p 3 0),(4,.p 4 0),(8,.p 8 0),(9,.p 9 0)],[(2,49,([.b true]++rx++bT k++[.b w]++aw f++aw t)),(3,38,cR x),(4,129,w9),(8,38,cR (x-k.x)),(9,38,cR (sW w))]⟩) (ap (bo rfl) ⟨rfl,rfl,rfl,rfl,congrArg (fun q=>some (38,cR q)) e9,trivial⟩ rfl) ?_
   refine aA<|ae<|cX 14 [] ?_
   refine aq (fv (cR k.y) bU rfl (by kernel_rfl)) ?_
   refine aq (fv (cR k.q) bU rfl (by kernel_rfl)) ?_
   refine aI rfl (ce (bk (df hx (hk.x))) (bk (df hx (hk.x)))) ?_
   refine aI rfl (fG (bk (hk.q)) (bk (a8 (df hx (hk.x)) (df hx (hk.x))))) ?_
   refine aI rfl (zo (Dk (c:=iB k x) (hk.y.m_) ((xL w).m_) ((rd hk (hx.m_)).m_) (fun h=>absurd h hm0) hs) rfl (XB hs) (Xv hs))<|ba ?_
   exact ai (bj d9 rfl (ak ag))
theorem Z6 {c:Cv}(vc:CvV c) (hx:Rz 14000 x):Ok Tryz.prog 271 [.a (aZ c),dR x] (if yn c x then[.a (Xd c x),.c (.i .i64 0)] else[.a w9,.c (.i .i64 1)]):=by
 cases hb:yn c x with
 |false=>
  rw[if_neg (by decide)]
  cases c with
  |seg l f t=>exact Yx vc hx hb
  |arc k w f t=>exact YX vc hx hb
 |true=>
  rw[if_pos rfl]
  cases c with
  |seg l f t=>exact YV vc hx hb
  |arc k w f t=>
   cases hs:kg (iB k x) with
   |true=>rw[RT hs];exact TL vc hx hb hs
   |false=>rw[SP hs];exact TT vc hx hb hs
theorem je {U:Re}(hX:0≤aB X) (h:cH Y U):cH (X*Y) (X*U):=by
 unfold cH at*
 rw[show X*U-X*Y=X*(U-Y) from aM fun k=>by simp only[aj,aE];grind,aY]
 exact fU hX h
theorem kI {x y z:Re}(h:aB (y-z)=0) (g:cH x y):cH x z:=by
 unfold cH at*
 rw[←cY (x:=y-x) (y:=z-x) (by rw[show y-x-(z-x)=y-z from aM fun k=>by simp only[aj];grind];exact h)]
 grind
theorem TK {x y:Re}(h:cH x y):cH (-y) (-x):=by
 unfold cH at*
 rw[show-x- -y=y-x from aM fun k=>by simp only[aj,aV];grind];exact h
theorem iq (x:Re):cH x x:=by
 unfold cH
 have h:aB (Re.of 0)=0:=by rw[bQ];decide
 rw[show x-x=Re.of 0 from aM fun k=>by simp only[aj,aK];grind,h];exact o9 _
theorem Lk {W:Re}{e:Rat}(hX:aB X=1) (hw:aB (X*Y-W)=0) (hU1:cH Y (Re.of U)) (hU2:cH (-Y) (Re.of U)) (he:cH (Re.of e) W∨cH (Re.of e) (-W)):cH (Re.of e) (Re.of U*X):=by
 have hc:Re.of U*X=X*Re.of U:=aM fun k=>by simp only[aE];grind
 rw[hc]
 rcases he with he|he
 ·have h1:aB (W-X*Y)=0:=by rw[show W-X*Y= -(X*Y-W) from aM fun k=>by simp only[aj,aV];grind,bG,hw];rfl
  exact et (kI h1 he) (je (by omega) hU1)
 ·have h1:aB (-W-X* -Y)=0:=by rw[show-W-X* -Y=X*Y-W from aM fun k=>by simp only[aj,aV,aE];grind];exact hw
  exact et (kI h1 he) (je (by omega) hU2)
theorem Kh {k:Nat}(h:Rz k x) (hx:0<x):1/((pw k:Int):Rat)≤x:=by
 have hp:=cU k
 have hpr:(0:Rat)<((pw k:Int):Rat):=iF.2 hp
 apply fe
 intro hn
 have h1:=wn (show x<1/((pw k:Int):Rat) by grind) hpr
 have hd:=den_pos x
 have hdr:(0:Rat)<((x.den:Int):Rat):=iF.2 hd
 have h2:((x.den:Int):Rat)≤((pw k:Int):Rat):=fm.2 (by obtain⟨g1,g2⟩:=h.d;omega)
 have h3:=tW h2 (show 0≤x by grind)
 rw[uW] at h3
 have h0:0<x.num:=by
  have:=jh hx hdr
  rw[uW] at this
  exact iF.1 (show((0:Int):Rat)<((x.num:Int):Rat) from this)
 have h4:((1:Int):Rat)≤((x.num:Int):Rat):=fm.2 (by omega)
 grind
theorem zX {k:Nat}(h:Rz k x):x≤((pw k:Int):Rat)∧ -((pw k:Int):Rat)≤x:=by
 have hd:=den_pos x
 have hdr:((1:Int):Rat)≤((x.den:Int):Rat):=fm.2 (by omega)
 have hn1:((x.num:Int):Rat)≤((pw k:Int):Rat):=fm.2 (by obtain⟨g1,g2⟩:=h.n;omega)
 have hn2:((-(pw k):Int):Rat)≤((x.num:Int):Rat):=fm.2 (by obtain⟨g1,g2⟩:=h.n;omega)
 have e:=uW x
 constructor
 ·apply fe
  intro hn
  have h1:=tW hdr (show 0≤x by grind)
  grind
 ·apply fe
  intro hn
  have h1:=tW hdr (show 0≤ -x by grind)
  grind
theorem abr (h:0≤M):cH (Re.rt M) (Re.of (M+1)):=by
 refine qH (u9 M) (by rw[bQ];exact gG (by grind)) ?_
 have e:aB (Re.of (M+1)*Re.of (M+1)-Re.rt M*Re.rt M)=aB (Re.of ((M+1)*(M+1)-M)):=cY (by
  rw[show Re.of (M+1)*Re.of (M+1)-Re.rt M*Re.rt M-Re.of ((M+1)*(M+1)-M)= -(Re.rt M*Re.rt M-Re.of M) from aM fun k=>by simp only[aj,aE,aK,aV];grind,bG,lh h];rfl)
 rw[e,bQ]
 exact gG (by have:=fl h h;grind)
theorem KH (h:0≤M) (h1:b*(M+1)≤V) (h0:0≤V):cH (Re.of b*Re.rt M) (Re.of V):=by
 by_cases hb:0≤b
 ·have:=je (X:=Re.of b) (by rw[bQ];exact gG hb) (abr h)
  exact et this (by rw[dO];exact of_le h1)
 ·have h2:cH (Re.of b*Re.rt M) (Re.of 0):=by
   unfold cH
   rw[show Re.of 0-Re.of b*Re.rt M=Re.of (-b)*Re.rt M from aM fun k=>by simp only[aj,aE,aK];grind,aY]
   exact fU (by rw[bQ];exact gG (by grind)) (u9 M)
  exact et h2 (of_le h0)
theorem Md (h:0≤M) (h1:b*(M+1)≤U-a) (h0:a≤U):cH (az a b M) (Re.of U):=by
 have:=KH (b:=b) h h1 (by grind)
 have h2:=fD (iq (Re.of a)) this
 unfold az
 refine et h2 ?_
 rw[show Re.of a+Re.of (U-a)=Re.of U from aM fun k=>by simp only[aD,aK];grind]
 exact iq _
theorem N0 (h:0≤M):aB (az a b M*az a (-b) M-Re.of (a*a-b*b*M))=0:=by
 rw[show az a b M*az a (-b) M-Re.of (a*a-b*b*M)=Re.of (-(b*b))*(Re.rt M*Re.rt M-Re.of M) from aM fun k=>by simp only[az,aj,aE,aK,aD];grind,aY,lh h,ny]
theorem jC (a b M:Rat):az (-a) (-b) M= -(az a b M):=aM fun k=>by simp only[az,aD,aE,aK,aV];grind
theorem GC (a b:Nat):((pw (a+b):Int):Rat)=((pw a:Int):Rat)*((pw b:Int):Rat):=by rw[←dD,qv]
theorem pJ (k:Nat):(0:Rat)<((pw k:Int):Rat):=iF.2 (cU k)
theorem F3 (k:Nat):(1:Rat)≤((pw k:Int):Rat):=by
 have h:((1:Int):Rat)≤((pw k:Int):Rat):=fm.2 (by have:=cU k;omega)
 grind
theorem O2 (h1:b≤B) (h2: -B≤b) (c0:0≤c) (c1:c≤C):b*c≤B*C∧ -(B*C)≤b*c:=by
 have g1:b*c≤B*c:=qQ h1 c0
 have g2:B*c≤B*C:=tW c1 (by grind)
 have g3: -B*c≤b*c:=qQ h2 c0
 grind
theorem F4 (ha:Rz ka a) (hb:Rz kb b) (hm:Rz km M) (h0:0≤M) (hU:((pw ka:Int):Rat)+((pw kb:Int):Rat)*(((pw km:Int):Rat)+1)≤U):cH (az a b M) (Re.of U)∧cH (-(az a b M)) (Re.of U):=by
 obtain⟨a1,a2⟩:=zX ha
 obtain⟨b1,b2⟩:=zX hb
 obtain⟨m1,_⟩:=zX hm
 obtain⟨g1,g2⟩:=O2 (c:=M+1) (C:=((pw km:Int):Rat)+1) b1 b2 (by grind) (by grind)
 refine⟨Md h0 (by grind) (by grind),?_⟩
 rw[←jC]
 exact Md h0 (by grind) (by grind)
theorem XT (hx:0<x) (h:x≤y):1/y≤1/x:=by
 apply fe
 intro hn
 have h0:0<1/y:=by
  apply fe
  intro hc
  have:=qQ (show 1/y≤0 by grind) (show 0≤y by grind)
  grind
 have h1:=wn (show 1/x<1/y by grind) hx
 have h2:=tW h (show 0≤1/y by grind)
 grind
theorem aae (h:0<a):a≤2*a:=by grind
theorem S6 (h:x<0):0< -x:=by grind
theorem UW (h:0<2*a):0<a:=by grind
theorem Mj (h:0≤c):0≤c+1:=by grind
theorem Ur {d:Rat}(h:c≤d):c+1≤d+1:=by grind
theorem TS (h: -y≤x): -x≤y:=by grind
theorem Va (h:aX x 0=1):0<x:=by
 unfold aX at h
 split at h
 ·cases h
 grind
theorem AN (h:0<x):0≤x:=by grind
theorem aax (h:x≠0):x<0∨0<x:=by grind
theorem Gf (h:aB u=0) (g:aB v=0):aB (u+v)=0:=by
 rw[cY (x:=u+v) (y:=v) (by rw[show u+v-v=u from aM fun k=>by simp only[aj,aD];grind];exact h)]
 grind
theorem TI (a b:Nat):1/((pw (a+b):Int):Rat)*((pw b:Int):Rat)=1/((pw a:Int):Rat):=by
 have h2:=pJ b
 rw[GC]
 grind
theorem Me {a b:Nat}(h:cH (Re.of (1/((pw a:Int):Rat))) (Re.of ((pw b:Int):Rat)*X)):cH (Re.of (1/((pw (a+b):Int):Rat))) X:=by
 refine tu (pJ b) ?_
 rw[dO,Rat.mul_comm,TI]
 grind
theorem JZ {a b:Nat}(h:a≤b):1/((pw b:Int):Rat)≤1/((pw a:Int):Rat):=XT (pJ a) (fm.2 (mv h))
theorem pw1:((pw 1:Int):Rat)=1000000000:=by
 have:pw 1=1000000000:=by decide+kernel
 rw[this];rfl
theorem Gt (ka kb km:Nat):((pw ka:Int):Rat)+((pw kb:Int):Rat)*(((pw km:Int):Rat)+1)≤((pw (ka+kb+km+1):Int):Rat):=by
 rw[GC,GC,GC,pw1]
 have a:=F3 ka
 have b:=F3 kb
 have m:=F3 km
 generalize ((pw ka:Int):Rat)=x at*
 generalize ((pw kb:Int):Rat)=y at*
 generalize ((pw km:Int):Rat)=z at*
 have h1:=tW b (show 0≤x by grind)
 have h2:=tW m (show 0≤x*y by grind)
 have h3:=qQ a (show 0≤y by grind)
 have h4:=qQ h3 (show 0≤z by grind)
 grind
def K2 (ka kb km:Nat):Nat:=(ka+ka+(kb+kb+km)+1)+(ka+kb+km+1)
theorem Rk (ha:Rz ka a) (hb:Rz kb b) (hm:Rz km M) (h0:0≤M) (hX:aB (az a b M)=1):cH (Re.of (1/((pw (K2 ka kb km):Int):Rat))) (az a b M):=by
 have hr:Rz (ka+ka+(kb+kb+km)+1) (a*a-b*b*M):=(ha.mul ha).sub ((hb.mul hb).mul hm)
 obtain⟨u1,u2⟩:=F4 ha hb.neg hm h0 (Gt ka kb km)
 have hc:=N0 (a:=a) (b:=b) h0
 by_cases hz:a*a-b*b*M=0
 ·--the conjugate is 0
  have hY:aB (az a (-b) M)=0:=by
   have h1:aB (az a b M*az a (-b) M)=0:=by
    rw[cY hc,bQ,hz];decide
   rw[aY,hX,js] at h1
   grind
  have h2:aB (az a b M-Re.of (2*a))=0:=by
   rw[show az a b M-Re.of (2*a)= -(az a (-b) M) from aM fun k=>by simp only[az,aj,aD,aE,aK,aV];grind,bG,hY];rfl
  have h3:aB (Re.of (2*a))=1:=by rw[←cY h2];exact hX
  have ha0:0<a:=UW (Va (by rw[←bQ];exact h3))
  have h4:=Kh ha ha0
  have h5:=JZ (a:=ka) (b:=K2 ka kb km) (by unfold K2;omega)
  have h6:cH (Re.of (1/((pw (K2 ka kb km):Int):Rat))) (Re.of (2*a)):=of_le (Rat.le_trans h5 (Rat.le_trans h4 (aae ha0)))
  refine kI ?_ h6
  rw[show Re.of (2*a)-az a b M= -(az a b M-Re.of (2*a)) from aM fun k=>by simp only[aj,aV];grind,bG,h2];rfl
 ·refine Me (Lk hX hc u1 u2 ?_)
  rcases aax hz with h|h
  ·right
   rw[show-Re.of (a*a-b*b*M)=Re.of (-(a*a-b*b*M)) from aM fun k=>by simp only[aV,aK]]
   exact of_le (Kh hr.neg (S6 h))
  ·left
   exact of_le (Kh hr h)
theorem adW (ha:Rz ka a) (hb:Rz kb b) (hm:Rz km M) (h0:0≤M) (hX:aB (az a b M)≠0):cH (Re.of (1/((pw (K2 ka kb km):Int):Rat))) (az a b M)∨cH (Re.of (1/((pw (K2 ka kb km):Int):Rat))) (-(az a b M)):=by
 rcases bg (az a b M) with h|h|h
 ·exact .inl (Rk ha hb hm h0 h)
 ·grind
 ·right
  rw[←jC]
  exact Rk ha.neg hb.neg hm h0 (by rw[jC,bG,h];rfl)
def K4 (kA kB kC kM kN:Nat):Nat:=K2 (kA+kA+(kB+kB+kM)+1+(kC+kC+kN)+1) (1+(kA+kB)) kM+(kA+kB+kM+1+kC+kN+1)
theorem TX (kA kB kC kM kN:Nat):((pw (kA+kB+kM+1):Int):Rat)+((pw kC:Int):Rat)*(((pw kN:Int):Rat)+1)≤((pw (kA+kB+kM+1+kC+kN+1):Int):Rat):=Gt _ kC kN
theorem ad2 {kA kB kC kM kN:Nat}{A N:Rat}(hA:Rz kA A) (hB:Rz kB B) (hC:Rz kC C) (hM:Rz kM M) (hN:Rz kN N) (m0:0≤M) (n0:0≤N) (hX:aB (jM A B C 0 M N)=1):cH (Re.of (1/((pw (K4 kA kB kC kM kN):Int):Rat))) (jM A B C 0 M N):=by
 have two:Rz 1 (2:Rat):=o7 (by decide+kernel)
 have hw1:Rz (kA+kA+(kB+kB+kM)+1+(kC+kC+kN)+1) (A*A+B*B*M-C*C*N):=((hA.mul hA).add ((hB.mul hB).mul hM)).sub ((hC.mul hC).mul hN)
 have hw2:Rz (1+(kA+kB)) (2*(A*B)):=two.mul (hA.mul hB)
 have hconj:aB (jM A B C 0 M N*jM A B (-C) 0 M N-az (A*A+B*B*M-C*C*N) (2*(A*B)) M)=0:=by
  rw[show jM A B C 0 M N*jM A B (-C) 0 M N-az (A*A+B*B*M-C*C*N) (2*(A*B)) M=Re.of (B*B)*(Re.rt M*Re.rt M-Re.of M)+Re.of (-(C*C))*(Re.rt N*Re.rt N-Re.of N) from aM fun k=>by simp only[jM,az,aj,aE,aK,aD];grind]
  refine Gf ?_ ?_
  ·rw[aY,lh m0,ny]
  ·rw[aY,lh n0,ny]
 have hP:=Gt kA kB kM
 obtain⟨u1,u2⟩:=F4 hA hB hM m0 hP
 obtain⟨c1,c2⟩:=zX hC
 obtain⟨k1,_⟩:=zX hN
 obtain⟨g1,g2⟩:=O2 (c:=N+1) (C:=((pw kN:Int):Rat)+1) c1 c2 (Mj n0) (Ur k1)
 have hQ0:=fl (AN (pJ kC)) (Mj (AN (pJ kN)))
 have v1:cH (Re.of C*Re.rt N) (Re.of (((pw kC:Int):Rat)*(((pw kN:Int):Rat)+1))):=KH n0 g1 hQ0
 have v2:cH (Re.of (-C)*Re.rt N) (Re.of (((pw kC:Int):Rat)*(((pw kN:Int):Rat)+1))):=KH n0 (by rw[Rat.neg_mul];exact TS g2) hQ0
 have hS:=of_le (TX kA kB kC kM kN)
 have up1:cH (jM A B (-C) 0 M N) (Re.of ((pw (kA+kB+kM+1+kC+kN+1):Int):Rat)):=by
  refine et ?_ hS
  have:=fD u1 v2
  rw[show jM A B (-C) 0 M N=az A B M+Re.of (-C)*Re.rt N from aM fun k=>by simp only[jM,az,aE,aK,aD];grind,
   show Re.of (((pw (kA+kB+kM+1):Int):Rat)+((pw kC:Int):Rat)*(((pw kN:Int):Rat)+1))=Re.of ((pw (kA+kB+kM+1):Int):Rat)+Re.of (((pw kC:Int):Rat)*(((pw kN:Int):Rat)+1)) from aM fun k=>by simp only[aK,aD]]
  grind
 have up2:cH (-(jM A B (-C) 0 M N)) (Re.of ((pw (kA+kB+kM+1+kC+kN+1):Int):Rat)):=by
  refine et ?_ hS
  have:=fD u2 v1
  rw[show-(jM A B (-C) 0 M N)= -(az A B M)+Re.of C*Re.rt N from aM fun k=>by simp only[jM,az,aE,aK,aD,aV];grind,
   show Re.of (((pw (kA+kB+kM+1):Int):Rat)+((pw kC:Int):Rat)*(((pw kN:Int):Rat)+1))=Re.of ((pw (kA+kB+kM+1):Int):Rat)+Re.of (((pw kC:Int):Rat)*(((pw kN:Int):Rat)+1)) from aM fun k=>by simp only[aK,aD]]
  grind
 by_cases hz:aB (az (A*A+B*B*M-C*C*N) (2*(A*B)) M)=0
 ·have hY:aB (jM A B (-C) 0 M N)=0:=by
   have h1:aB (jM A B C 0 M N*jM A B (-C) 0 M N)=0:=by rw[cY hconj];exact hz
   rw[aY,hX,js] at h1
   grind
  have h2:aB (jM A B C 0 M N-Re.of 2*az A B M)=0:=by
   rw[show jM A B C 0 M N-Re.of 2*az A B M= -(jM A B (-C) 0 M N) from aM fun k=>by simp only[jM,az,aj,aD,aE,aK,aV];grind,bG,hY];rfl
  have h3:aB (az A B M)=1:=by
   have h4:=cY h2
   rw[hX,aY,bQ,show aX 2 0=1 from by decide,js] at h4
   grind
  have h4:=Rk hA hB hM m0 h3
  have h5:cH (az A B M) (Re.of 2*az A B M):=by
   unfold cH
   rw[show Re.of 2*az A B M-az A B M=az A B M from aM fun k=>by simp only[aj,aE,aK];grind,h3];decide
  have h6:cH (Re.of (1/((pw (K4 kA kB kC kM kN):Int):Rat))) (az A B M):=et (of_le (JZ (by unfold K4 K2;omega))) h4
  refine kI ?_ (et h6 h5)
  rw[show Re.of 2*az A B M-jM A B C 0 M N= -(jM A B C 0 M N-Re.of 2*az A B M) from aM fun k=>by simp only[aj,aV];grind,bG,h2];rfl
 ·exact Me (Lk hX hconj up1 up2 (adW hw1 hw2 hM m0 hz))
structure Mob (A0 B0 C:Rat) (p q r s:Int) (A B:Rat):Prop where
 e1:((p:Rat)-(r:Rat)*A0)*A-(r:Rat)*B0*B*C=(s:Rat)*A0-(q:Rat)
 e2:((p:Rat)-(r:Rat)*A0)*B-(r:Rat)*B0*A=(s:Rat)*B0
 det:p*s-q*r=1∨p*s-q*r= -1
section
variable {A0 B0 C A B:Rat}{p q r s:Int}
theorem Mob.init (A0 B0 C:Rat):Mob A0 B0 C 1 0 0 1 A0 B0:=by
 refine⟨?_,?_,.inl (by decide)⟩
 ·grind
 grind
theorem Mob.shift (h:Mob A0 B0 C p q r s A B) (n:Int):Mob A0 B0 C p (p*n+q) r (r*n+s) (A-(n:Rat)) B:=by
 obtain⟨e1,e2,hd⟩:=h
 refine⟨?_,?_,?_⟩
 ·grind
 ·grind
 grind
theorem Mob.inv (h:Mob A0 B0 C p q r s A B) {w:Rat}(hw:(A*A-B*B*C)*w=1):Mob A0 B0 C q p s r (A*w) (-B*w):=by
 obtain⟨e1,e2,hd⟩:=h
 refine⟨?_,?_,?_⟩
 ·grind
 ·grind
 grind
theorem Mob.sol (h:Mob A0 B0 C p q r s A B):A*(((p:Rat)-(r:Rat)*A0)*((p:Rat)-(r:Rat)*A0)-(r:Rat)*(r:Rat)*(B0*B0*C))=((s:Rat)*A0-(q:Rat))*((p:Rat)-(r:Rat)*A0)+(s:Rat)*(r:Rat)*(B0*B0*C)∧
 B*(((p:Rat)-(r:Rat)*A0)*((p:Rat)-(r:Rat)*A0)-(r:Rat)*(r:Rat)*(B0*B0*C))=B0*((p*s-q*r:Int):Rat):=by
 obtain⟨e1,e2,hd⟩:=h
 grind
theorem Mob.ne (h:Mob A0 B0 C p q r s A B) (_hv:B0≠0→0<C∧kg C=false):((p:Rat)-(r:Rat)*A0)*((p:Rat)-(r:Rat)*A0)-(r:Rat)*(r:Rat)*(B0*B0*C)≠0:=by
 obtain⟨e1,e2,hd⟩:=h
 have hdr:((p*s-q*r:Int):Rat)≠0:=by
  rcases hd with hd|hd<;>rw[hd]<;>decide
 by_cases hb:B0=0
 ·grind
 grind
theorem Mob.sz (h:Mob A0 B0 C p q r s A B) (hv:B0≠0→0<C∧kg C=false) {m kp kq kr ks:Nat}(hA:Rz m A0) (hB:Rz m B0) (hC:Rz m C) (hp:Rz kp (p:Rat)) (hq:Rz kq (q:Rat)) (hr:Rz kr (r:Rat)) (hs:Rz ks (s:Rat)):
 Rz (((ks+m+kq+1)+(kp+(kr+m)+1)+(ks+kr+(m+m+m))+1)+((kp+(kr+m)+1)+(kp+(kr+m)+1)+(kr+kr+(m+m+m))+1)) A∧Rz ((m+1)+((kp+(kr+m)+1)+(kp+(kr+m)+1)+(kr+kr+(m+m+m))+1)) B:=by
 have hne:=h.ne hv
 obtain⟨s1,s2⟩:=h.sol
 have hd:=h.det
 have z1:=hp.sub (hr.mul hA)
 have z2:=(z1.mul z1).sub ((hr.mul hr).mul ((hB.mul hB).mul hC))
 have z3:=(((hs.mul hA).sub hq).mul z1).add ((hs.mul hr).mul ((hB.mul hB).mul hC))
 have z4:Rz 1 ((p*s-q*r:Int):Rat):=by rcases hd with hd|hd<;>rw[hd]<;>exact o7 (by decide+kernel)
 have z5:=(hB.mul z4).div z2 hne
 have z6:=z3.div z2 hne
 grind
theorem Mob.real (h:Mob A0 B0 C p q r s A B) (hc:0≤C):aB (az A0 B0 C*(Re.of (r:Rat)*az A B C+Re.of (s:Rat))-(Re.of (p:Rat)*az A B C+Re.of (q:Rat)))=0:=by
 obtain⟨e1,e2,hd⟩:=h
 rw[show az A0 B0 C*(Re.of (r:Rat)*az A B C+Re.of (s:Rat))-(Re.of (p:Rat)*az A B C+Re.of (q:Rat))=Re.of ((r:Rat)*B0*B)*(Re.rt C*Re.rt C-Re.of C) from aM fun k=>by simp only[az,aj,aD,aE,aK];grind,aY,lh hc,ny]
end
theorem v8 (v:Re) (h:aB u=0):aB (v*u)=0:=by rw[aY,h,ny]
theorem tz (h:aB u=0):aB (-u)=0:=by rw[bG,h];rfl
theorem DH {x y z:Re}(h:aB (y-x)=0) (g:cH x z):cH y z:=by
 unfold cH at*
 rw[cY (x:=z-y) (y:=z-x) (by rw[show z-y-(z-x)= -(y-x) from aM fun k=>by simp only[aj,aV];grind];exact tz h)]
 grind
theorem Ab {a b c d:Re}(ha:0≤aB c) (h:cH a b) (hb:0≤aB b) (g:cH c d):cH (a*c) (b*d):=by
 have h1:cH (c*a) (c*b):=je ha h
 have h2:cH (b*c) (b*d):=je hb g
 rw[show a*c=c*a from aM fun k=>by simp only[aE];grind]
 rw[show c*b=b*c from aM fun k=>by simp only[aE];grind] at h1
 exact et h1 h2
theorem yB {x:Re}(h:cH (Re.of 0) x):0≤aB x:=by
 unfold cH at h
 rw[show x-Re.of 0=x from aM fun k=>by simp only[aj,aK];grind] at h;exact h
theorem yx {x:Re}(h:0≤aB x):cH (Re.of 0) x:=by
 unfold cH
 rw[show x-Re.of 0=x from aM fun k=>by simp only[aj,aK];grind];exact h
theorem E2 (h:0≤x):0≤aB (Re.of x):=by rw[bQ];exact gG h
theorem Bo (h:0≤n):(0:Rat)≤(n:Rat):=by
 have:((0:Int):Rat)≤(n:Rat):=fm.2 h
 grind
theorem PL (h:0<x) :1/x*y*x=y:=by grind
theorem Ka (h:0<x):0≤1/x:=by
 apply fe
 intro hc
 have:=qQ (show 1/x≤0 by grind) (show 0≤x by grind)
 grind
section
variable {X Y V W Z Z':Re}{p q r s n:Int}
theorem F6 (hr:0≤r) (h:cH (Re.of (n:Rat)) X):cH (Re.of ((r*n+s:Int):Rat)) (Re.of (r:Rat)*X+Re.of (s:Rat)):=by
 have h1:=je (X:=Re.of (r:Rat)) (E2 (Bo hr)) h
 have h2:=fD h1 (iq (Re.of (s:Rat)))
 rw[show Re.of (r:Rat)*Re.of (n:Rat)+Re.of (s:Rat)=Re.of ((r*n+s:Int):Rat) from aM fun k=>by simp only[aD,aE,aK,gz,dD]] at h2
 grind
theorem LT (hX:aB (V*(Re.of (r:Rat)*X+Re.of (s:Rat))-(Re.of (p:Rat)*X+Re.of (q:Rat)))=0) (hY:aB (W*(Re.of (r:Rat)*Y+Re.of (s:Rat))-(Re.of (p:Rat)*Y+Re.of (q:Rat)))=0):
 aB ((V-W)*((Re.of (r:Rat)*X+Re.of (s:Rat))*(Re.of (r:Rat)*Y+Re.of (s:Rat)))-Re.of ((p*s-q*r:Int):Rat)*(X-Y))=0:=by
 rw[show(V-W)*((Re.of (r:Rat)*X+Re.of (s:Rat))*(Re.of (r:Rat)*Y+Re.of (s:Rat)))-Re.of ((p*s-q*r:Int):Rat)*(X-Y)=
  (Re.of (r:Rat)*Y+Re.of (s:Rat))*(V*(Re.of (r:Rat)*X+Re.of (s:Rat))-(Re.of (p:Rat)*X+Re.of (q:Rat)))+ -((Re.of (r:Rat)*X+Re.of (s:Rat))*(W*(Re.of (r:Rat)*Y+Re.of (s:Rat))-(Re.of (p:Rat)*Y+Re.of (q:Rat)))) from
  aM fun k=>by simp only[aj,aD,aE,aK,aV,ri,dD];grind]
 exact Gf (v8 _ hX) (tz (v8 _ hY))
theorem Do {a b:Re}(h1:cH a (Re.of ((n+1:Int):Rat))) (h2:cH (Re.of (n:Rat)) b):cH (a-b) (Re.of 1):=by
 have:=fD h1 (TK h2)
 rw[show a+ -b=a-b from aM fun k=>by simp only[aj,aD,aV];try grind,show Re.of ((n+1:Int):Rat)+ -Re.of (n:Rat)=Re.of 1 from aM fun k=>by
  simp only[aD,aK,aV,gz];try grind] at this
 grind
theorem Fi (hr:0≤r) (hs:0≤s) (hn:0≤n) (hd:p*s-q*r=1∨p*s-q*r= -1)
 (hX:aB (V*(Re.of (r:Rat)*X+Re.of (s:Rat))-(Re.of (p:Rat)*X+Re.of (q:Rat)))=0) (hY:aB (W*(Re.of (r:Rat)*Y+Re.of (s:Rat))-(Re.of (p:Rat)*Y+Re.of (q:Rat)))=0)
 (x0:cH (Re.of (n:Rat)) X) (x1:cH X (Re.of ((n+1:Int):Rat))) (y0:cH (Re.of (n:Rat)) Y) (y1:cH Y (Re.of ((n+1:Int):Rat)))
 (he:cH (Re.of (1/((pw K:Int):Rat))) (V-W)):(r*n+s)*(r*n+s)≤pw K:=by
 have hR0:0≤r*n+s:=by have:=fU hr hn;omega
 have e1:=LT hX hY
 have lx:=F6 (s:=s) hr x0
 have ly:=F6 (s:=s) hr y0
 have nR:=E2 (Bo hR0)
 have zx:0≤aB (Re.of (r:Rat)*X+Re.of (s:Rat)):=yB (et (of_le (Bo hR0)) lx)
 have m1:=Ab nR lx zx ly
 have hp:=pJ K
 have ie:(0:Rat)≤1/((pw K:Int):Rat):=Ka hp
 have dp:0≤aB (V-W):=yB (et (of_le ie) he)
 have nRR:0≤aB (Re.of ((r*n+s:Int):Rat)*Re.of ((r*n+s:Int):Rat)):=by rw[aY];exact fU nR nR
 have m2:=Ab nRR he dp m1
 have t1:cH (Re.of ((p*s-q*r:Int):Rat)*(X-Y)) (Re.of 1):=by
  rcases hd with hd|hd<;>rw[hd]
  ·rw[show Re.of ((1:Int):Rat)*(X-Y)=X-Y from aM fun k=>by
    have h1:((1:Int):Rat)=1:=rfl
    simp only[aj,aE,aK,h1];grind]
   exact Do x1 y0
  ·rw[show Re.of ((-1:Int):Rat)*(X-Y)=Y-X from aM fun k=>by
    have h1:((-1:Int):Rat)= -1:=rfl
    simp only[aj,aE,aK,h1];grind]
   exact Do y1 x0
 have m3:=et m2 (DH e1 t1)
 rw[dO,dO,←dD] at m3
 have m4:=gC m3
 have m5:=qQ m4 (AN hp)
 rw[PL hp,Rat.one_mul] at m5
 exact fm.1 m5
theorem Xb {U:Int}(hq:0≤q) (hs:0≤s) (hr:0≤r) (hX:aB (V*(Re.of (r:Rat)*X+Re.of (s:Rat))-(Re.of (p:Rat)*X+Re.of (q:Rat)))=0) (x1:cH (Re.of 1) X) (v0:0≤aB V) (v1:cH V (Re.of (U:Rat))):p≤U*(r+s):=by
 have xp:0<aB X:=by
  have h1:cH (Re.of 1) X:=x1
  rcases bg X with h|h|h
  ·omega
  ·exfalso
   have h2:cH (Re.of 1) (Re.of 0):=kI (by rw[show X-Re.of 0=X from aM fun k=>by simp only[aj,aK];grind];exact h) h1
   exact absurd (gC h2) (by decide)
  ·exfalso
   have h3:cH X (Re.of 0):=by unfold cH;rw[show Re.of 0-X= -X from aM fun k=>by simp only[aj,aK,aV];grind,bG,h];decide
   exact absurd (gC (et h1 h3)) (by decide)
 have a1:cH (Re.of (p:Rat)*X) (Re.of (p:Rat)*X+Re.of (q:Rat)):=by
  unfold cH
  rw[show Re.of (p:Rat)*X+Re.of (q:Rat)-Re.of (p:Rat)*X=Re.of (q:Rat) from aM fun k=>by simp only[aj,aD,aK];grind]
  exact E2 (Bo hq)
 have a2:=kI (z:=V*(Re.of (r:Rat)*X+Re.of (s:Rat))) (by rw[show Re.of (p:Rat)*X+Re.of (q:Rat)-V*(Re.of (r:Rat)*X+Re.of (s:Rat))= -(V*(Re.of (r:Rat)*X+Re.of (s:Rat))-(Re.of (p:Rat)*X+Re.of (q:Rat))) from aM fun k=>by simp only[aj,aV];grind];exact tz hX) a1
 have a3:cH (Re.of (r:Rat)*X+Re.of (s:Rat)) (Re.of ((r+s:Int):Rat)*X):=by
  have h1:=je (X:=Re.of (s:Rat)) (E2 (Bo hs)) x1
  have h2:=fD (iq (Re.of (r:Rat)*X)) h1
  rw[show Re.of (s:Rat)*Re.of 1=Re.of (s:Rat) from aM fun k=>by simp only[aE,aK];grind,show Re.of (r:Rat)*X+Re.of (s:Rat)*X=Re.of ((r+s:Int):Rat)*X from aM fun k=>by simp only[aE,aD,aK,gz];grind] at h2
  grind
 have a4:=je v0 a3
 have rsX:0≤aB (Re.of ((r+s:Int):Rat)*X):=by rw[aY];exact fU (E2 (Bo (by omega))) (by omega)
 have a5:cH (V*(Re.of ((r+s:Int):Rat)*X)) (Re.of (U:Rat)*(Re.of ((r+s:Int):Rat)*X)):=by
  have:=je rsX v1
  rw[show Re.of ((r+s:Int):Rat)*X*V=V*(Re.of ((r+s:Int):Rat)*X) from aM fun k=>by simp only[aE];grind,show Re.of ((r+s:Int):Rat)*X*Re.of (U:Rat)=Re.of (U:Rat)*(Re.of ((r+s:Int):Rat)*X) from aM fun k=>by simp only[aE];grind] at this
  grind
 have a6:=et a2 (et a4 a5)
 unfold cH at a6
 rw[show Re.of (U:Rat)*(Re.of ((r+s:Int):Rat)*X)-Re.of (p:Rat)*X=Re.of ((U*(r+s)-p:Int):Rat)*X from aM fun k=>by simp only[aj,aE,aK,ri,dD];grind,aY] at a6
 apply fe
 intro hn
 have h7:aB (Re.of ((U*(r+s)-p:Int):Rat))= -1:=by
  rw[bQ]
  unfold aX
  rw[if_pos (by
   have:((U*(r+s)-p:Int):Rat)<((0:Int):Rat):=iF.2 (by omega)
   exact this)]
 grind
end
def fr (p q:Int):Rat:=(p:Rat)/(q:Rat)
theorem o5 (h:0<q):(0:Rat)<(q:Rat):=iF.2 h
theorem MP (h:q≠0):(q:Rat)≠0:=fun e=>h (Rat.intCast_inj.1 (e.trans Rat.intCast_zero.symm))
theorem ij {p:Int}(h:0<q):fr p q*(q:Rat)=(p:Rat):=rK (MP (by omega))
theorem vx {p:Int}(h:0<q) (e:x*(q:Rat)=(p:Rat)):fr p q=x:=by
 have h1:=ij (p:=p) h
 have h2:(fr p q-x)*(q:Rat)=0:=by grind
 rcases AZ.1 h2 with h3|h3
 ·grind
 ·exact absurd h3 (MP (by omega))
theorem yj (x:Rat):fr x.num (x.den:Int)=x:=vx (by have:=x.den_pos;omega) (by
 have:=Rat.num_divInt_den x
 rw[yI] at this
 have h2:=rK (a:=(x.num:Rat)) (b:=((x.den:Int):Rat)) (MP (by have:=x.den_pos;omega))
 rw[this] at h2;exact h2)
structure TMin (S:Rat→Prop) (P Q:Int):Prop where
 p:0<P
 q:0<Q
 mem:S (fr P Q)
 min: ∀p q:Int,0<q→S (fr p q)→P≤p∧Q≤q
theorem wH (hP:0<P) (hQ:0<Q):fr (n*P+Q) P=(n:Rat)+1/fr P Q:=by
 refine vx hP ?_
 have h1:=ij (p:=P) hQ
 have h0:fr P Q≠0:=by
  have:=o5 hP
  grind
 grind
theorem TMin.step (hn:0≤n) (h:TMin S' P Q) (h1: ∀x,S x↔(n:Rat)<x∧S' (1/(x-(n:Rat)))):TMin S (n*P+Q) P:=by
 have hP:=h.p
 have hQ:=h.q
 have hf:=ij (p:=P) hQ
 have hfp:0<fr P Q:=by
  apply fe
  intro hn
  have:=qQ (show fr P Q≤0 by grind) (show 0≤(Q:Rat) by have:=o5 hQ;grind)
  have:=o5 hP
  grind
 have hi:1/fr P Q*fr P Q=1:=by grind
 have hip:0<1/fr P Q:=by
  apply fe
  intro hn
  have:=qQ (show 1/fr P Q≤0 by grind) (show 0≤fr P Q by grind)
  grind
 refine⟨by have:=fU hn (show 0≤P by omega);omega,hP,?_,fun p q hq hs=>?_⟩
 ·rw[h1,wH hP hQ]
  refine⟨by grind,?_⟩
  rw[show(n:Rat)+1/fr P Q-(n:Rat)=1/fr P Q by grind]
  rw[show 1/(1/fr P Q)=fr P Q from by
   have h3:1/(1/fr P Q)*(1/fr P Q)*fr P Q=fr P Q:=by grind
   rw[Rat.mul_assoc,hi,ui] at h3
   exact h3]
  exact h.mem
 ·obtain⟨g1,g2⟩:=(h1 _).1 hs
  have e1:=ij (p:=p) hq
  have hqp:=o5 hq
  have hk:0<p-n*q:=by
   have:=wn g1 hqp
   rw[e1,←dD] at this
   have:=iF.1 this
   omega
  have e2:fr q (p-n*q)=1/(fr p q-(n:Rat)):=by
   refine vx hk ?_
   grind
  rw[←e2] at g2
  obtain⟨m1,m2⟩:=h.min q (p-n*q) hk g2
  have:=m8 m1 hn
  omega
theorem TMin.whole (hn:0≤n) (h1:S ((n+1:Int):Rat)) (h2: ∀x,S x→(n:Rat)<x):TMin S (n+1) 1:=by
 refine⟨by omega,by omega,?_,fun p q hq hs=>⟨?_,by omega⟩⟩
 ·rw[show fr (n+1) 1=((n+1:Int):Rat) from vx (by omega) (by rw[Rat.intCast_one,ui])];exact h1
 ·have e1:=ij (p:=p) hq
  have:=wn (h2 _ hs) (o5 hq)
  rw[e1,←dD] at this
  have h3:=iF.1 this
  have:=m8 (show 1≤q by omega) hn
  omega
theorem TMin.den (h:TMin S P Q):(fr P Q).num=P∧((fr P Q).den:Int)=Q:=by
 have e:=yj (fr P Q)
 have hd:0<((fr P Q).den:Int):=by have:=(fr P Q).den_pos;omega
 have hm:=h.min (fr P Q).num ((fr P Q).den:Int) hd (by rw[e];exact h.mem)
 have h1:=ij (p:=P) h.q
 have h2:=ij (p:=(fr P Q).num) hd
 have h3:P*((fr P Q).den:Int)=(fr P Q).num*Q:=by
  have:((P*((fr P Q).den:Int):Int):Rat)=(((fr P Q).num*Q:Int):Rat):=by grind
  exact Rat.intCast_inj.1 this
 have h4:(fr P Q).num.natAbs∣P.natAbs*(fr P Q).den:=⟨Q.natAbs,by
  have:=congrArg Int.natAbs h3
  rw[pS,pS,yO] at this
  exact this⟩
 have h5:=Nat.le_of_dvd (by have:=h.p;omega) (Nat.Coprime.dvd_of_dvd_mul_right (fr P Q).reduced h4)
 have hP:(fr P Q).num=P:=by have:=h.p;omega
 refine⟨hP,?_⟩
 rw[hP] at h3
 have:=h.p
 exact Int.eq_of_mul_eq_mul_left (by omega) h3
theorem Nq (hc: ∀x y z:Rat,S x→S y→x≤z→z≤y→S z) {m k:Int}(hQ:2≤Q) (hm:S (fr m Q)) (hk:S (fr k Q)) (hmin: ∀p q:Int,0<q→S (fr p q)→Q≤q):m=k:=by
 have key: ∀m k:Int,S (fr m Q)→S (fr k Q)→m<k→False:=by
  intro m k hm hk hlt
  have e1:Q*(m/Q)+m%Q=m:=rS m Q
  have r0:0≤m%Q:=po m (by omega)
  have r1:m%Q<Q:=oJ m (by omega)
  generalize m/Q=t at e1
  generalize m%Q=r at e1 r0 r1
  have hQ1:0<Q-1:=by omega
  have hfm:=ij (p:=m) (q:=Q) (by omega)
  have hfk:=ij (p:=k) (q:=Q) (by omega)
  have hfj:=ij (p:=t*(Q-1)+r) (q:=Q-1) hQ1
  have p1:=o5 (show 0<Q by omega)
  have p2:=o5 hQ1
  have le1:fr m Q≤fr (t*(Q-1)+r) (Q-1):=by
   apply fe
   intro hn
   have h1:=wn (show fr (t*(Q-1)+r) (Q-1)<fr m Q by grind) (jh p1 p2)
   have h2:fr (t*(Q-1)+r) (Q-1)*((Q:Rat)*((Q-1:Int):Rat))=(((t*(Q-1)+r)*Q:Int):Rat):=by grind
   have h3:fr m Q*((Q:Rat)*((Q-1:Int):Rat))=((m*(Q-1):Int):Rat):=by grind
   rw[h2,h3] at h1
   have h4:=iF.1 h1
   have h5:(t*(Q-1)+r)*Q=m*(Q-1)+r:=by grind
   omega
  have le2:fr (t*(Q-1)+r) (Q-1)≤fr k Q:=by
   have h1:=wn (show fr k Q<fr (t*(Q-1)+r) (Q-1) by grind) (jh p1 p2)
   have h2:fr (t*(Q-1)+r) (Q-1)*((Q:Rat)*((Q-1:Int):Rat))=(((t*(Q-1)+r)*Q:Int):Rat):=by grind
   have h3:fr k Q*((Q:Rat)*((Q-1:Int):Rat))=((k*(Q-1):Int):Rat):=by grind
   rw[h2,h3] at h1
   have h4:=iF.1 h1
   have h5:(t*(Q-1)+r)*Q=m*(Q-1)+r:=by grind
   have h6:=vv (show m+1≤k by omega) (show 0≤Q-1 by omega)
   grind
  grind
 rcases tc m k with h|h|h
 ·grind
 ·exact h
 grind
theorem MG (h:aX x 0=0):x=0:=GE (by rw[h];rfl)
section
variable {x y z:Rat}
theorem IA (hz:0≤z) (hv:y≠0→0<z):vV x y z=aB (az x y z):=by
 rw[←jn hz]
 unfold vV bD sB
 have e:aX y 0*aX z 0=aX y 0:=by
  by_cases hy:y=0
  ·subst hy;rw[show aX 0 0=0 from by decide];omega
  ·rw[show aX z 0=1 from by unfold aX;rw[if_neg (by have:=hv hy;grind),if_pos (hv hy)]];omega
 rw[e,oE]
end
def uR (a b:Re) (x:Rat):Prop:=aB (Re.of x-a)=1∧aB (b-Re.of x)=1
theorem vT (h:0<x):aB (Re.of x)=1:=by rw[bQ];unfold aX;rw[if_neg (by grind),if_pos h]
theorem AK (h:aB (u*u'-Re.of 1)=0) (hu:aB u'=1) {t:Rat}(ht:0<t):aB (Re.of t-u)=aB (u'-Re.of (1/t)):=by
 have h1:aB ((Re.of t-u)*u'-Re.of t*(u'-Re.of (1/t)))=0:=by
  rw[show(Re.of t-u)*u'-Re.of t*(u'-Re.of (1/t))= -(u*u'-Re.of 1) from aM fun k=>by
   simp only[aj,aE,aK,aV]
   grind]
  exact tz h
 have h2:=cY h1
 rw[aY,aY,hu,vT ht,sv,js] at h2
 grind
theorem qJ {a:Re}(ha:cH (Re.of (n:Rat)) a) (h:aB (Re.of x-a)=1):(n:Rat)<x:=by
 have h1:cH a (Re.of x):=by unfold cH;omega
 have h2:=gC (et ha h1)
 apply fe
 intro hn
 have he:x=(n:Rat):=by grind
 subst he
 have h3:0≤aB (a-Re.of (n:Rat)):=ha
 rw[show a-Re.of (n:Rat)= -(Re.of (n:Rat)-a) from aM fun k=>by simp only[aj,aV];grind,bG,h] at h3
 omega
section
variable {a b a' b':Re}{n:Int}
theorem CW (x:Rat):Re.of x-a=Re.of (x-(n:Rat))-(a-Re.of (n:Rat)):=aM fun k=>by simp only[aj,aK];grind
theorem xd (x:Rat):b-Re.of x= -(Re.of (x-(n:Rat))-(b-Re.of (n:Rat))):=aM fun k=>by simp only[aj,aK,aV];grind
theorem eJ (u v:Re):aB (u-v)= -aB (v-u):=by rw[←bG];exact congrArg aB (aM fun k=>by simp only[aj,aV];grind)
theorem Pc (ha:cH (Re.of (n:Rat)) a) (h1:aB ((a-Re.of (n:Rat))*a'-Re.of 1)=0) (ha':aB a'=1) (h2:aB ((b-Re.of (n:Rat))*b'-Re.of 1)=0) (hb':aB b'=1) (x:Rat):
 uR a b x↔(n:Rat)<x∧uR b' a' (1/(x-(n:Rat))):=by
 constructor
 ·intro ⟨g1,g2⟩
  have hx:=qJ ha g1
  have ht:0<x-(n:Rat):=by grind
  refine⟨hx,?_,?_⟩
  ·rw[xd (n:=n),bG,AK h2 hb' ht] at g2
   rw[eJ];exact g2
  ·rw[CW (n:=n),AK h1 ha' ht] at g1;exact g1
 ·intro ⟨hx,g1,g2⟩
  have ht:0<x-(n:Rat):=by grind
  refine⟨?_,?_⟩
  ·rw[CW (n:=n),AK h1 ha' ht];exact g2
  ·rw[xd (n:=n),bG,AK h2 hb' ht,←eJ];exact g1
theorem PK (ha:aB (a-Re.of (n:Rat))=0) (h2:aB ((b-Re.of (n:Rat))*b'-Re.of 1)=0) (hb':aB b'=1) (x:Rat):
 uR a b x↔(n:Rat)<x∧aB (Re.of (1/(x-(n:Rat)))-b')=1:=by
 have hl:cH (Re.of (n:Rat)) a:=by unfold cH;omega
 constructor
 ·intro ⟨g1,g2⟩
  have hx:=qJ hl g1
  have ht:0<x-(n:Rat):=by grind
  refine⟨hx,?_⟩
  rw[xd (n:=n),bG,AK h2 hb' ht] at g2
  rw[eJ];exact g2
 ·intro ⟨hx,g1⟩
  have ht:0<x-(n:Rat):=by grind
  refine⟨?_,?_⟩
  ·rw[CW (n:=n)]
   have h3:aB (Re.of (x-(n:Rat))-(a-Re.of (n:Rat)))=aB (Re.of (x-(n:Rat))):=cY (by
    rw[show Re.of (x-(n:Rat))-(a-Re.of (n:Rat))-Re.of (x-(n:Rat))= -(a-Re.of (n:Rat)) from aM fun k=>by simp only[aj,aV];grind]
    exact tz ha)
   rw[h3];exact vT ht
  ·rw[xd (n:=n),bG,AK h2 hb' ht,←eJ];exact g1
theorem J7 (hn:0≤n) (ha:cH (Re.of (n:Rat)) a) (h1:aB (Re.of ((n+1:Int):Rat)-a)=1) (h2:aB (b-Re.of ((n+1:Int):Rat))=1):TMin (uR a b) (n+1) 1:=
 TMin.whole hn ⟨h1,h2⟩ fun _x hx=>qJ ha hx.1
theorem KQ {m:Int}(hm:0≤m) (hb:cH (Re.of (m:Rat)) b') (h1:aB (Re.of ((m+1:Int):Rat)-b')=1):TMin (fun x=>aB (Re.of x-b')=1) (m+1) 1:=
 TMin.whole hm h1 fun _x hx=>qJ hb hx
end
theorem Yu (hy:y≠0) (hv:0<z∧kg z=false) (m:Rat):aB (az x y z-Re.of m)≠0:=by
 obtain⟨z0,zs⟩:=hv
 have hz:0≤z:=by grind
 intro h
 have h8:aB (az (x-m) y z)=0:=by
  rw[show az (x-m) y z=az x y z-Re.of m from aM fun k=>by simp only[az,aD,aE,aK,aj];grind]
  grind
 rw[←IA hz (fun _=>z0)] at h8
 have hyn:aX y 0≠0:=fun e=>hy (MG e)
 unfold vV at h8
 split at h8
 ·grind
 ·split at h8
  ·grind
  ·rename_i g1 g2
   have h9:aX ((x-m)*(x-m)-y*y*z) 0=0:=(pV.1 h8).resolve_left g2
   have h10:=MG h9
   have h11:z=(x-m)/y*((x-m)/y):=by grind
   rw[h11,JQ] at zs
   grind
theorem wz (hz:0≤z) (hv:y≠0→0<z∧kg z=false):aB (Re.of ((oV x y z+1:Int):Rat)-az x y z)=1:=by
 have h:=(tV (a:=x) (b:=y) hz).2
 have h0:0≤aB (Re.of ((oV x y z+1:Int):Rat)-az x y z):=h
 by_cases hy:y=0
 ·subst hy
  have hd:=den_pos x
  rw[OS rfl] at*
  have hf:=(MT (Z:=x.num) hd).2
  rw[show Re.of (((x.num.fdiv (x.den:Int)+1:Int)):Rat)-az x 0 z=Re.of (((x.num.fdiv (x.den:Int)+1:Int):Rat)-x) from aM fun k=>by simp only[az,aj,aD,aE,aK];grind]
  refine vT ?_
  apply fe
  intro hn
  have h2:=qQ (show((x.num.fdiv (x.den:Int)+1:Int):Rat)≤x by grind) (Bo (show 0≤(x.den:Int) by omega))
  rw[uW,←dD] at h2
  have h3:=fm.1 h2
  omega
 ·have h1:=Yu (x:=x) hy (hv hy) ((oV x y z+1:Int):Rat)
  rw[eJ] at h1
  rcases bg (Re.of ((oV x y z+1:Int):Rat)-az x y z) with g|g|g<;>omega
structure Vl (B C:Rat):Prop where
 c0:0≤C
 v:B≠0→0<C∧kg C=false
 z:B=0→C=0
theorem ME (hv:y≠0→0<z∧kg z=false) (h:aB (az x y z)≠0):x*x-y*y*z≠0:=by
 intro e
 by_cases hy:y=0
 ·subst hy
  have h2:x=0:=by grind
  apply h
  rw[h2,show az 0 0 z=Re.of 0 from aM fun k=>by simp only[az,aD,aE,aK];grind,bQ]
  decide
 ·obtain⟨_,zs⟩:=hv hy
  have h11:z=x/y*(x/y):=by grind
  rw[h11,JQ] at zs
  grind
theorem BM {w:Rat}(hz:0≤z) (hw:(x*x-y*y*z)*w=1):aB (az x y z*az (x*w) (-y*w) z-Re.of 1)=0:=by
 rw[show az x y z*az (x*w) (-y*w) z-Re.of 1=Re.of (-(w*y*y))*(Re.rt z*Re.rt z-Re.of z) from aM fun k=>by simp only[az,aj,aD,aE,aK];grind]
 exact v8 _ (lh hz)
theorem inv_pos (h:aB (u*u'-Re.of 1)=0) (hu:aB u=1):aB u'=1:=by
 have h2:=cY h
 rw[aY,hu,js,vT (by decide)] at h2
 grind
theorem Qt (h:aB (u*u'-Re.of 1)=0) (hu:aB u=1) (h1:cH u (Re.of 1)):cH (Re.of 1) u':=by
 have hp:=inv_pos h hu
 have h2:=je (X:=u') (by omega) h1
 have h3:cH (Re.of 1) (u'*u):=by
  refine kI (y:=Re.of 1) ?_ (iq _)
  rw[eJ,show u'*u-Re.of 1=u*u'-Re.of 1 from aM fun k=>by simp only[aj,aE];grind,h];rfl
 have h4:=et h3 h2
 rw[show u'*Re.of 1=u' from aM fun k=>by simp only[aE,aK];grind] at h4
 grind
theorem NH {v':Re}(h1:aB (u*u'-Re.of 1)=0) (h2:aB (v*v'-Re.of 1)=0) (hu:aB u=1) (hv:aB v=1) (h:aB (v-u)=1):aB (u'-v')=1:=by
 have h3:aB (u*v*(u'-v')-(v-u))=0:=by
  rw[show u*v*(u'-v')-(v-u)=v*(u*u'-Re.of 1)+ -(u*(v*v'-Re.of 1)) from aM fun k=>by simp only[aj,aD,aE,aK,aV];grind]
  exact Gf (v8 _ h1) (tz (v8 _ h2))
 have h4:=cY h3
 rw[aY,aY,hu,hv,h] at h4
 omega
theorem XJ (h:0<x):0<1/x:=by
 have h1:=Ka h
 grind
section
variable {A0 B0 C D0 E0 F A B D E:Rat}{p q r s:Int}
theorem Mob.vl (m:Mob A0 B0 C p q r s A B) (h:Vl B0 C):Vl B C:=by
 have hs:=m.sol.2
 have hne:=m.ne h.v
 have hdr:((p*s-q*r:Int):Rat)≠0:=by rcases m.det with hd|hd<;>rw[hd]<;>decide
 refine⟨h.c0,fun hb=>h.v ?_,fun hb=>h.z ?_⟩
 ·grind
 grind
structure BSt (U:Int) (h:Nat) (A0 B0 C D0 E0 F:Rat) (p q r s:Int) (A B D E:Rat):Prop where
 m1:Mob A0 B0 C p q r s A B
 m2:Mob D0 E0 F p q r s D E
 v1:Vl B0 C
 v2:Vl E0 F
 p0:0≤p
 q0:0≤q
 r0:0≤r
 s0:0≤s
 u1:1≤U
 pU:p≤U*(r+s)
 qU:q≤U*(r+s)
 rh:r≤pw h
 sh:s≤pw h
 V0:0≤aB (az A0 B0 C)
 W0:0≤aB (az D0 E0 F)
 VU:cH (az A0 B0 C) (Re.of (U:Rat))
 WU:cH (az D0 E0 F) (Re.of (U:Rat))
 sep:cH (Re.of (1/((pw (h+h):Int):Rat))) (az A0 B0 C-az D0 E0 F)∨cH (Re.of (1/((pw (h+h):Int):Rat))) (az D0 E0 F-az A0 B0 C)
 a0:0≤aB (az A B C)
 au:cH (az A B C) (Re.of ((pw (h+h):Int):Rat))
 ab:aB (az D E F-az A B C)=1
 st:(r=0∧s=1)∨(1≤r∧cH (Re.of 1) (az A B C))
theorem Qj {x:Int}(hx:0≤x) (hs:x*x≤pw (h+h)):x≤pw h:=by
 rw[qv] at hs
 apply fe
 intro hn
 have hp:=cU h
 have h1:(pw h+1)*(pw h+1)≤x*x:=qS (by omega) (by omega) (by omega) (by omega)
 grind
variable {U:Int}{h:Nat}{n:Int}
theorem gh (x y z:Rat) (n:Int):az (x-(n:Rat)) y z=az x y z-Re.of (n:Rat):=aM fun k=>by simp only[az,aj,aD,aE,aK];grind
theorem BSt.n0 (S:BSt U h A0 B0 C D0 E0 F p q r s A B D E) (hx:aB (Re.of ((n+1:Int):Rat)-az A B C)=1):0≤n∧(1≤r→1≤n):=by
 have key: ∀m:Int,cH (Re.of (m:Rat)) (az A B C)→m<n+1:=by
  intro m hm
  have:=qJ (x:=((n+1:Int):Rat)) hm hx
  exact iF.1 this
 refine⟨?_,fun hr=>?_⟩
 ·have:=key 0 (yx S.a0);omega
 ·rcases S.st with⟨e,_⟩|⟨_,e⟩
  ·omega
  ·have:=key 1 e;omega
theorem BSt.next_r (S:BSt U h A0 B0 C D0 E0 F p q r s A B D E) (hn:0≤n) (x0:cH (Re.of (n:Rat)) (az A B C)) (x1:cH (az A B C) (Re.of ((n+1:Int):Rat))) (y1:cH (az D E F) (Re.of ((n+1:Int):Rat))):r*n+s≤pw h:=by
 have hR0:0≤r*n+s:=by have:=fU S.r0 hn;have:=S.s0;omega
 have y0:cH (Re.of (n:Rat)) (az D E F):=et x0 (by unfold cH;have:=S.ab;omega)
 refine Qj hR0 ?_
 rcases S.sep with e|e
 ·exact Fi S.r0 S.s0 hn S.m1.det (S.m1.real S.v1.c0) (S.m2.real S.v2.c0) x0 x1 y0 y1 e
 ·exact Fi S.r0 S.s0 hn S.m2.det (S.m2.real S.v2.c0) (S.m1.real S.v1.c0) y0 y1 x0 x1 e
theorem BSt.z1 (S:BSt U h A0 B0 C D0 E0 F p q r s A B D E) (hX:cH (az A B C) X):cH (Re.of 1) (Re.of (r:Rat)*X+Re.of (s:Rat)):=by
 rcases S.st with⟨e1,e2⟩|⟨e1,e2⟩
 ·rw[e1,e2]
  have h0:((0:Int):Rat)=0:=rfl
  have h1:((1:Int):Rat)=1:=rfl
  rw[h0,h1,show Re.of 0*X+Re.of 1=Re.of 1 from aM fun k=>by simp only[aD,aE,aK];grind]
  exact iq _
 ·have h1:((1:Int):Rat)=1:=rfl
  have:=F6 (s:=s) (n:=1) S.r0 (et (by rw[h1];exact e2) hX)
  refine et (of_le ?_) this
  have h2:((1:Int):Rat)≤((r*1+s:Int):Rat):=fm.2 (by have:=S.s0;omega)
  grind
theorem BSt.gap (S:BSt U h A0 B0 C D0 E0 F p q r s A B D E):cH (Re.of (1/((pw (h+h):Int):Rat))) (az D E F-az A B C):=by
 have hab:cH (az A B C) (az D E F):=by unfold cH;have:=S.ab;omega
 have zx:=S.z1 (iq _)
 have zy:=S.z1 hab
 have ie:(0:Rat)≤1/((pw (h+h):Int):Rat):=Ka (pJ _)
 have one0:0≤aB (Re.of 1):=E2 (by decide)
 have m1:=Ab one0 zx (yB (et (of_le (by decide)) zx)) zy
 have e11:Re.of 1*Re.of 1=Re.of 1:=by rw[dO,ui]
 rw[e11] at m1
 have main: ∀ {A0 B0 C0 D0 E0 F0:Rat}{X Y:Re},aB (az A0 B0 C0*(Re.of (r:Rat)*X+Re.of (s:Rat))-(Re.of (p:Rat)*X+Re.of (q:Rat)))=0→aB (az D0 E0 F0*(Re.of (r:Rat)*Y+Re.of (s:Rat))-(Re.of (p:Rat)*Y+Re.of (q:Rat)))=0→
  cH (Re.of 1) ((Re.of (r:Rat)*X+Re.of (s:Rat))*(Re.of (r:Rat)*Y+Re.of (s:Rat)))→cH (Re.of (1/((pw (h+h):Int):Rat))) (az A0 B0 C0-az D0 E0 F0)→cH (Re.of (1/((pw (h+h):Int):Rat))) (X-Y)∨cH (Re.of (1/((pw (h+h):Int):Rat))) (Y-X):=by
  intro A0 B0 C0 D0 E0 F0 X Y hX hY hm he
  have e1:=LT hX hY
  have dp:0≤aB (az A0 B0 C0-az D0 E0 F0):=yB (et (of_le ie) he)
  have m2:=Ab one0 he dp hm
  rw[show Re.of (1/((pw (h+h):Int):Rat))*Re.of 1=Re.of (1/((pw (h+h):Int):Rat)) from by rw[dO,ui]] at m2
  have m3:=kI e1 m2
  rcases S.m1.det with hd|hd<;>rw[hd] at m3
  ·left
   rw[show Re.of ((1:Int):Rat)*(X-Y)=X-Y from aM fun k=>by
    have h1:((1:Int):Rat)=1:=rfl
    simp only[aj,aE,aK,h1];grind] at m3
   grind
  ·right
   rw[show Re.of ((-1:Int):Rat)*(X-Y)=Y-X from aM fun k=>by
    have h1:((-1:Int):Rat)= -1:=rfl
    simp only[aj,aE,aK,h1];grind] at m3
   grind
 have fin:cH (Re.of (1/((pw (h+h):Int):Rat))) (az A B C-az D E F)→cH (Re.of (1/((pw (h+h):Int):Rat))) (az D E F-az A B C):=by
  intro hq
  have:=yB (et (of_le ie) hq)
  rw[eJ,S.ab] at this
  omega
 rcases S.sep with e|e
 ·rcases main (S.m1.real S.v1.c0) (S.m2.real S.v2.c0) m1 e with g|g
  ·grind
  grind
 ·have m1':cH (Re.of 1) ((Re.of (r:Rat)*az D E F+Re.of (s:Rat))*(Re.of (r:Rat)*az A B C+Re.of (s:Rat))):=by
   rw[show(Re.of (r:Rat)*az D E F+Re.of (s:Rat))*(Re.of (r:Rat)*az A B C+Re.of (s:Rat))=(Re.of (r:Rat)*az A B C+Re.of (s:Rat))*(Re.of (r:Rat)*az D E F+Re.of (s:Rat)) from aM fun k=>by simp only[aE];grind];exact m1
  rcases main (S.m2.real S.v2.c0) (S.m1.real S.v1.c0) m1' e with g|g
  ·exact g
  ·exact fin g
theorem Rv (h:aB (u*u'-Re.of 1)=0) (hu:aB u=1) (h1:cH (Re.of (1/((pw K:Int):Rat))) u):cH u' (Re.of ((pw K:Int):Rat)):=by
 have hp:=inv_pos h hu
 have hk:=pJ K
 have h2:=je (X:=u') (by omega) h1
 have h3:cH (u'*u) (Re.of 1):=by
  refine DH (x:=Re.of 1) ?_ (iq _)
  rw[show u'*u-Re.of 1=u*u'-Re.of 1 from aM fun k=>by simp only[aj,aE];grind];exact h
 have h4:=et h2 h3
 have e:1/((pw K:Int):Rat)*((pw K:Int):Rat)=1:=by grind
 refine tu (d:=1/((pw K:Int):Rat)) (XJ hk) ?_
 rw[dO,e,show Re.of (1/((pw K:Int):Rat))*u'=u'*Re.of (1/((pw K:Int):Rat)) from aM fun k=>by simp only[aE];grind]
 grind
theorem BSt.step (S:BSt U h A0 B0 C D0 E0 F p q r s A B D E) (x0:cH (Re.of (n:Rat)) (az A B C)) (x1:aB (Re.of ((n+1:Int):Rat)-az A B C)=1) (y1:cH (az D E F) (Re.of ((n+1:Int):Rat))) (hz:aB (az A B C-Re.of (n:Rat))=1)
 {w1 w2:Rat}(hw1:((A-(n:Rat))*(A-(n:Rat))-B*B*C)*w1=1) (hw2:((D-(n:Rat))*(D-(n:Rat))-E*E*F)*w2=1):
 BSt U h D0 E0 F A0 B0 C (p*n+q) p (r*n+s) r ((D-(n:Rat))*w2) (-E*w2) ((A-(n:Rat))*w1) (-B*w1)∧2*r+s<2*(r*n+s)+r∧0≤n:=by
 obtain⟨hn,hn1⟩:=S.n0 x1
 have hrn:=fU S.r0 hn
 have hpn:=fU S.p0 hn
 have s0:=S.s0
 have r0:=S.r0
 have q0:=S.q0
 have hbn:aB (az D E F-Re.of (n:Rat))=1:=by
  have h1:=fD (x:=Re.of 0) (y:=az A B C-Re.of (n:Rat)) (u:=Re.of 0) (v:=az D E F-az A B C) (yx (by omega)) (yx (by have:=S.ab;omega))
  rcases bg (az D E F-Re.of (n:Rat)) with g|g|g
  ·exact g
  ·exfalso
   have h2:=S.ab
   have h3:aB (az D E F-az A B C- -(az A B C-Re.of (n:Rat)))=0:=by
    rw[show az D E F-az A B C- -(az A B C-Re.of (n:Rat))=az D E F-Re.of (n:Rat) from aM fun k=>by simp only[aj,aV];grind];exact g
   have h4:=cY h3
   rw[bG,hz,h2] at h4
   omega
  ·exfalso
   have h2:cH (az D E F) (Re.of (n:Rat)):=by unfold cH;rw[eJ,g];decide
   have h3:=et (et (by unfold cH;have:=S.ab;omega:cH (az A B C) (az D E F)) h2) (iq _)
   have h4:0≤aB (Re.of (n:Rat)-az A B C):=h3
   rw[eJ,hz] at h4
   omega
 have i1:aB ((az A B C-Re.of (n:Rat))*az ((A-(n:Rat))*w1) (-B*w1) C-Re.of 1)=0:=by
  rw[←gh];exact BM S.v1.c0 hw1
 have i2:aB ((az D E F-Re.of (n:Rat))*az ((D-(n:Rat))*w2) (-E*w2) F-Re.of 1)=0:=by
  rw[←gh];exact BM S.v2.c0 hw2
 have le1:cH (az D E F-Re.of (n:Rat)) (Re.of 1):=by
  refine Do (n:=n) y1 (iq _)
 have t1:=Qt i2 hbn le1
 have gb:cH (az D E F-az A B C) (az D E F-Re.of (n:Rat)):=by
  unfold cH
  rw[show az D E F-Re.of (n:Rat)-(az D E F-az A B C)=az A B C-Re.of (n:Rat) from aM fun k=>by simp only[aj];grind];omega
 have tp:=inv_pos i2 hbn
 have hr1:1≤r*n+s:=by
  rcases S.st with⟨e1,e2⟩|⟨e1,_⟩
  ·grind
  ·have:=qS e1 (hn1 e1) (by omega) (by omega);omega
 have x1':cH (az A B C) (Re.of ((n+1:Int):Rat)):=by unfold cH;omega
 have hrb:=S.next_r hn x0 x1' y1
 have m1':=(S.m2.shift n).inv hw2
 have m2':=(S.m1.shift n).inv hw1
 refine⟨⟨m1',m2',S.v2,S.v1,by omega,S.p0,by omega,r0,S.u1,?_,?_,hrb,S.rh,S.W0,S.V0,S.WU,S.VU,S.sep.symm,by omega,Rv i2 hbn (et S.gap gb),NH i1 i2 hz hbn (by
  rw[show az D E F-Re.of (n:Rat)-(az A B C-Re.of (n:Rat))=az D E F-az A B C from aM fun k=>by simp only[aj];grind];exact S.ab),.inr ⟨hr1,t1⟩⟩,?_,hn⟩
 ·exact Xb S.p0 r0 (by omega) (m1'.real S.v2.c0) t1 S.W0 S.WU
 ·have h1:=m8 (show r+s≤r*n+s+r by omega) (show 0≤U by have:=S.u1;omega)
  have:=S.pU
  omega
 ·rcases S.st with⟨e1,e2⟩|⟨e1,_⟩
  ·grind
  ·have:=qS (o9 r) (hn1 e1) (by omega) r0;omega
end
end Go.Proofs.YtegpmhlfjkhjmaaGreat
