/-The order on a curve:the reference. -/
import Derived.Test.YtkmdgigkbhmilaaGreatBeM
namespace Go.Proofs.YtkmdgigkbhmilaaGreat
open Go Go.RowKit
variable {w w2:Bool}{d k:Ci}{ds rs:List D0}{l m:Ln}{P:Program}{f p q t u v:Pt}{a a1 a2 b b1 b2 c e x y:Rat}
theorem lT:type_of% @Rz.div:=@Rz.div
theorem rF:type_of% @GP.getD:=@GP.getD
theorem Vp (hk:GK k) (hp:GP p):Ok Tryz.prog 276 [.a (cg k),.a (aj p)] [.c (.b (nj k p))]:=by
 refine bU Tryz.func276 rfl ?_
 refine cU 6 [] ?_
 refine aO rfl (zY) ?_
 refine aO rfl (acv hp (hk.y.m_))<|cU 15 [] ?_
 refine xi (bp rfl) (fun c1 hb1=>?_)
 cases c1
 ·refine xi (bp rfl) (fun c2 hb2=>?_)
  cases c2
  ·refine ai ?_
   rw[Qs (k:=k) (p:=p) hb1 hb2]
   exact al ae
  ·refine aO rfl (jt) ?_
   refine aO rfl (abX hp (hk.x.m_))<|ai ?_
   rw[Jo (k:=k) (p:=p) hb1 hb2]
   exact al ae
 ·refine DQ.mk<|sP (pk rfl)<|dY ?_
  refine ai ?_
  rw[UW (k:=k) (p:=p) hb1]
  exact al ae
theorem Rj (hk:GK k) (hp:GP p) (hq:GP q):Ok Tryz.prog 220 [.a (cg k),.a (aj p),.a (aj q)] [.c (.i .i64 (g9 k p q))]:=by
 refine bU Tryz.func220 rfl ?_
 refine cU 8 [] ?_
 refine aO rfl (Vp hk hp) ?_
 refine aO rfl (Vp hk hq) ?_
 refine ar (iv rfl rfl iI rfl) ?_
 refine dr rfl (fun hc1=>?_) (fun hc1=>?_)
 ·refine dr rfl (fun hc2=>?_) (fun hc2=>?_)
  ·refine ai ?_
   rw[Tl (k:=k) (p:=p) (q:=q) hc1 hc2]
   exact al ae
  ·refine ai ?_
   rw[PP (k:=k) (p:=p) (q:=q) hc1 hc2]
   exact al ae
 ·refine cU 6 [] ?_
  refine aO rfl (jt) ?_
  refine aO rfl (jt) ?_
  refine aO rfl (YU hp hq) ?_
  refine dr rfl (fun hc3=>?_) (fun hc3=>?_)
  ·refine ar (fG (r:= -cx p q) rfl (yR (gS p q)) rfl) ?_
   refine ai ?_
   rw[PU (k:=k) (p:=p) (q:=q) hc1 hc3]
   exact al ae
  ·refine ai ?_
   rw[Qp (k:=k) (p:=p) (q:=q) hc1 hc3]
   exact al ae
theorem V6 (hk:GK k) (hf:GP f) (hp:GP p) (hq:GP q):Ok Tryz.prog 141 [.a (cg k),.a (aj f),.a (aj p),.a (aj q)] [.c (.i .i64 (wy k f p q))]:=by
 refine bU Tryz.func141 rfl ?_
 refine cU 12 [] ?_
 refine aO rfl (Rj hk hp hf) ?_
 refine aO rfl (Rj hk hq hf) ?_
 refine ar (iv rfl rfl iI rfl) ?_
 refine dr rfl (fun hc1=>?_) (fun hc1=>?_)
 ·refine dr rfl (fun hc2=>?_) (fun hc2=>?_)
  ·refine ai ?_
   rw[abv (k:=k) (f:=f) (p:=p) (q:=q) hc1 hc2]
   exact al ae
  ·refine ai ?_
   rw[Wh (k:=k) (f:=f) (p:=p) (q:=q) hc1 hc2]
   exact al ae
 ·refine ac rfl (Rj hk hp hq)<|ai ?_
  rw[ZA (k:=k) (f:=f) (p:=p) (q:=q) hc1]
  exact al ae
theorem Ew (hp:GP p):Ok Tryz.prog 143 [.a (aj p)] [.a (aj p.flip)]:=by
 refine bU Tryz.func143 rfl ?_
 refine cU 7 [] ?_
 refine aO rfl (fX (hp.a1.m_)) ?_
 refine aO rfl (fX (hp.b1.m_)) ?_
 refine jF (bm (us:=(cR (-p.a1)++cR p.b1++cR p.a2++cR p.b2++cR p.c)) bt rfl rfl rfl rfl (dV rfl) rfl rfl) ?_
 refine jF (bm (us:=(cR (-p.a1)++cR (-p.b1)++cR p.a2++cR p.b2++cR p.c)) bt rfl rfl rfl rfl (dV rfl) rfl rfl) ?_
 exact ai (a8 bv rfl ae)
theorem aad (hk:GK k) (hf:GP f) (ht:GP t):Ok Tryz.prog 142 [.a (([.b true]++dA++cg k++[.b w]++aj f++aj t))] [.a (([.b true]++dA++cg k.mir++[.b (!w)]++aj f.flip++aj t.flip))]:=by
 refine fD Tryz.func142 22 [.cell 2 48] rfl ?_
 refine aa ?_
 refine ah ?_
 refine aa ?_
 refine ah ?_
 refine ar (dx (cR k.x) bt rfl (by kernel_rfl)) ?_
 refine ac rfl (fX (hk.x.m_)) ?_
 refine jF (bm (us:=([.b true]++dA++(cR k.mir.x++cR k.y++cR k.q)++[.b w]++aj f++aj t)) bt rfl rfl rfl rfl (dV (by kernel_rfl)) (by kernel_rfl) rfl) ?_
 refine aa<|qV 13 [1,999999] ew (by kernel_rfl) rfl rfl<|dU 1<|Aj (by kernel_rfl) (dx (aj f) bv rfl (by kernel_rfl))<|bH (dt rfl (Ew hf))<|dU 1<|Aj (by kernel_rfl) (dx (aj t) bv rfl (by kernel_rfl))<|bH (dt rfl (Ew ht))<|dU 1<|Aj (by kernel_rfl) (bW jb rfl)<|dU 2<|i4 (bm (us:=([.b true]++dA++(cR k.mir.x++cR k.y++cR k.q)++[.b w]++aj f.flip++aj t)) bv rfl rfl rfl rfl (dV (by kernel_rfl)) (by kernel_rfl) rfl) rfl rfl rfl rfl ?_
 refine dU 1<|H3 (bm (us:=([.b true]++dA++(cR k.mir.x++cR k.y++cR k.q)++[.b w]++aj f.flip++aj t.flip)) bv rfl rfl rfl rfl (dV (by kernel_rfl)) (by kernel_rfl) rfl) rfl rfl (by kernel_rfl) rfl ?_
 refine kj<|Nl<|bR 1<|gZ (bm (us:=([.b true]++dA++(cR k.mir.x++cR k.y++cR k.q)++[.b (!w)]++aj f.flip++aj t.flip)) jb rfl rfl rfl rfl (dV (by kernel_rfl)) (by kernel_rfl) rfl) ?_
 refine bj ?_
 refine aa ?_
 refine ah ?_
 refine ar (gC aY rfl) ?_
 refine jF (dZ aY rfl) ?_
 refine bb ?_
 exact ai (gE (us:=([.b true]++dA++(cR k.mir.x++cR k.y++cR k.q)++[.b (!w)]++aj f.flip++aj t.flip)) aY rfl rfl (by kernel_rfl) (by kernel_rfl) ae)
theorem JD (_hl:GL l) (hf:GP f) (ht:GP t) (hp:GP p) (hq:GP q):Ok Tryz.prog 74 [.a (([.b false]++fm l++dA++[.b false]++aj f++aj t)),.a (aj p),.a (aj q)] [.c (.i .i64 ((Cv.seg l f t).ord p q))]:=by
 refine bU Tryz.func74 rfl ?_
 refine ar (bW jb rfl) ?_
 refine oC rfl ?_
 refine ac rfl (oz hp hq) ?_
 refine ar (dx (aj f) bv rfl (by kernel_rfl)) ?_
 refine ar (dx (aj t) bv rfl (by kernel_rfl)) ?_
 refine ac rfl (oz hf ht) ?_
 refine dr rfl (fun hc1=>?_) (fun hc1=>?_)
 ·refine ar (fG (r:= -cP p q) rfl (yR (aaV p q)) rfl) ?_
  refine ai ?_
  rw[Yr (l:=l) (f:=f) (t:=t) (p:=p) (q:=q) hc1]
  exact al ae
 ·refine ai ?_
  rw[Yk (l:=l) (f:=f) (t:=t) (p:=p) (q:=q) hc1]
  exact al ae
theorem IV (hk:GK k) (hf:GP f) (ht:GP t) (hp:GP p) (hq:GP q):Ok Tryz.prog 74 [.a (([.b true]++dA++cg k++[.b w]++aj f++aj t)),.a (aj p),.a (aj q)] [.c (.i .i64 ((Cv.arc k w f t).ord p q))]:=by
 refine bU Tryz.func74 rfl ?_
 refine ar (bW jb rfl) ?_
 refine mi rfl ?_
 refine ar (bW jb rfl) ?_
 refine dr rfl (fun hc1=>?_) (fun hc1=>?_)
 ·refine ar (dx (cg k) rg rfl (by kernel_rfl)) ?_
  refine ar (dx (aj f) bv rfl (by kernel_rfl)) ?_
  refine ac rfl (V6 hk hf hp hq) ?_
  refine ai ?_
  rw[Xq (k:=k) (w:=w) (f:=f) (t:=t) (p:=p) (q:=q) hc1]
  exact al ae
 ·refine ar (gC aY rfl) ?_
  refine ac rfl (aad hk hf ht) ?_
  refine jF (dZ aY rfl) ?_
  refine cU 10 [] ?_
  refine aq (dx (cg k.mir) rg rfl (by kernel_rfl)) ?_
  refine aq (dx (aj f.flip) bv rfl (by kernel_rfl)) ?_
  refine aO rfl (Ew hp) ?_
  refine aO rfl (Ew hq) ?_
  refine aO rfl (V6 (GK.mir hk) (GP.flip hf) (GP.flip hp) (GP.flip hq)) ?_
  refine ai ?_
  rw[WY (k:=k) (w:=w) (f:=f) (t:=t) (p:=p) (q:=q) hc1]
  exact al ae
theorem YC (hl:GL l) (_hf:GP f) (_ht:GP t) (hp:GP p):Ok Tryz.prog 73 [.a (([.b false]++fm l++dA++[.b false]++aj f++aj t)),.a (aj p)] [.c (.b ((Cv.seg l f t).supp p))]:=by
 refine bU Tryz.func73 rfl ?_
 refine ar (bW jb rfl) ?_
 refine mi rfl ?_
 refine ar (dx (fm l) AI rfl (by kernel_rfl)) ?_
 refine ac rfl (Xy hl hp) ?_
 exact ai (al ae)
theorem WN (hk:GK k) (_hf:GP f) (_ht:GP t) (hp:GP p):Ok Tryz.prog 73 [.a (([.b true]++dA++cg k++[.b w]++aj f++aj t)),.a (aj p)] [.c (.b ((Cv.arc k w f t).supp p))]:=by
 refine bU Tryz.func73 rfl ?_
 refine ar (bW jb rfl) ?_
 refine oC rfl ?_
 refine ar (dx (cg k) rg rfl (by kernel_rfl)) ?_
 refine ac rfl (ZO hk hp) ?_
 exact ai (al ae)
theorem aa8 (hl:GL l) (hf:GP f) (ht:GP t) (hp:GP p):Ok Tryz.prog 20 [.a (([.b false]++fm l++dA++[.b false]++aj f++aj t)),.a (aj p)] [.c (.b ((Cv.seg l f t).on p))]:=by
 refine bU Tryz.func20 rfl ?_
 refine ar (gC aY rfl) ?_
 refine ac rfl (YC hl hf ht hp) ?_
 refine kT (bp rfl) (fun c1 hb1=>?_)
 cases c1
 ·refine ar (bp rfl)<|ai ?_
  rw[Xg (c:=(Cv.seg l f t)) (p:=p) hb1]
  exact al ae
 ·refine ar (gC aY rfl) ?_
  refine ar (dx (aj f) bv rfl (by kernel_rfl)) ?_
  refine ac rfl (JD hl hf ht hf hp) ?_
  refine kT (bp rfl) (fun c2 hb2=>?_)
  cases c2
  ·refine ai ?_
   rw[UU (c:=(Cv.seg l f t)) (p:=p) hb1 hb2]
   exact al ae
  ·refine ar (gC aY rfl) ?_
   refine ar (dx (aj t) bv rfl (by kernel_rfl)) ?_
   refine ac rfl (JD hl hf ht hp ht) ?_
   refine ai ?_
   rw[VR (c:=(Cv.seg l f t)) (p:=p) hb1 hb2]
   exact al ae
theorem V5 (hk:GK k) (hf:GP f) (ht:GP t) (hp:GP p):Ok Tryz.prog 20 [.a (([.b true]++dA++cg k++[.b w]++aj f++aj t)),.a (aj p)] [.c (.b ((Cv.arc k w f t).on p))]:=by
 refine bU Tryz.func20 rfl ?_
 refine ar (gC aY rfl) ?_
 refine ac rfl (WN hk hf ht hp) ?_
 refine kT (bp rfl) (fun c1 hb1=>?_)
 cases c1
 ·refine ar (bp rfl)<|ai ?_
  rw[Xg (c:=(Cv.arc k w f t)) (p:=p) hb1]
  exact al ae
 ·refine ar (gC aY rfl) ?_
  refine ar (dx (aj f) bv rfl (by kernel_rfl)) ?_
  refine ac rfl (IV hk hf ht hf hp) ?_
  refine kT (bp rfl) (fun c2 hb2=>?_)
  cases c2
  ·refine ai ?_
   rw[UU (c:=(Cv.arc k w f t)) (p:=p) hb1 hb2]
   exact al ae
  ·refine ar (gC aY rfl) ?_
   refine ar (dx (aj t) bv rfl (by kernel_rfl)) ?_
   refine ac rfl (IV hk hf ht hp ht) ?_
   refine ai ?_
   rw[VR (c:=(Cv.arc k w f t)) (p:=p) hb1 hb2]
   exact al ae
theorem RS (_hl:GL l) (_hf:GP f) (_ht:GP t):Ok Tryz.prog 38 [.a (([.b false]++fm l++dA++[.b false]++aj f++aj t))] [.a (([.b false]++fm l++dA++[.b false]++aj t++aj f))]:=by
 refine bU Tryz.func38 rfl ?_
 refine ar (dx (aj t) bv rfl (by kernel_rfl)) ?_
 refine ar (dx (aj f) bv rfl (by kernel_rfl)) ?_
 refine jF (bm (us:=([.b false]++fm l++dA++[.b false]++aj t++aj t)) bv rfl rfl rfl rfl (dV (by kernel_rfl)) (by kernel_rfl) rfl) ?_
 refine jF (bm (us:=([.b false]++fm l++dA++[.b false]++aj t++aj f)) bv rfl rfl rfl rfl (dV (by kernel_rfl)) (by kernel_rfl) rfl) ?_
 refine ar (bW jb rfl) ?_
 refine ar (bp rfl) ?_
 refine jF (bm (us:=([.b false]++fm l++dA++[.b false]++aj t++aj f)) jb rfl rfl rfl rfl (dV (by kernel_rfl)) (by kernel_rfl) rfl) ?_
 refine ar (gC aY rfl) ?_
 refine jF (dZ aY rfl) ?_
 exact ai (gE (us:=([.b false]++fm l++dA++[.b false]++aj t++aj f)) aY rfl rfl (by kernel_rfl) (by kernel_rfl) ae)
theorem PW (_hk:GK k) (_hf:GP f) (_ht:GP t):Ok Tryz.prog 38 [.a (([.b true]++dA++cg k++[.b w]++aj f++aj t))] [.a (([.b true]++dA++cg k++[.b (!w)]++aj t++aj f))]:=by
 refine bU Tryz.func38 rfl ?_
 refine ar (dx (aj t) bv rfl (by kernel_rfl)) ?_
 refine ar (dx (aj f) bv rfl (by kernel_rfl)) ?_
 refine jF (bm (us:=([.b true]++dA++cg k++[.b w]++aj t++aj t)) bv rfl rfl rfl rfl (dV (by kernel_rfl)) (by kernel_rfl) rfl) ?_
 refine jF (bm (us:=([.b true]++dA++cg k++[.b w]++aj t++aj f)) bv rfl rfl rfl rfl (dV (by kernel_rfl)) (by kernel_rfl) rfl) ?_
 refine ar (bW jb rfl) ?_
 refine ar (bp rfl) ?_
 refine ar (bW jb rfl) ?_
 refine jF (bm (us:=([.b true]++dA++cg k++[.b (!w)]++aj t++aj f)) jb rfl rfl rfl rfl (dV (by kernel_rfl)) (by kernel_rfl) rfl) ?_
 refine ar (gC aY rfl) ?_
 refine jF (dZ aY rfl) ?_
 exact ai (gE (us:=([.b true]++dA++cg k++[.b (!w)]++aj t++aj f)) aY rfl rfl (by kernel_rfl) (by kernel_rfl) ae)
def Sw (a b c:Rat):Int:=bK ((a.den:Int)*(a.den:Int)*((b*b*c).num*((b*b*c).den:Int)))
def XS (a b c:Rat) (r:Int):Int:=(a.num*((b*b*c).den:Int)+r).fdiv ((a.den:Int)*((b*b*c).den:Int))
def oB (a b c:Rat):Int:=if b=0 then a.num.fdiv (a.den:Int) else if b<0 then XS a b c (-(Sw a b c+1)) else XS a b c (Sw a b c)
section
variable {a b c:Rat}
theorem VT (h:b=0):oB a b c=a.num.fdiv (a.den:Int):=by unfold oB;rw[if_pos h]
theorem aaL (h:b≠0) (h2:b<0):oB a b c=XS a b c (-(Sw a b c+1)):=by unfold oB;rw[if_neg h,if_pos h2]
theorem aaE (h:b≠0) (h2: ¬b<0):oB a b c=XS a b c (Sw a b c):=by unfold oB;rw[if_neg h,if_neg h2]
theorem Le {Z D:Int}(hD:0<D):Z.fdiv D*D≤Z∧Z+1≤(Z.fdiv D+1)*D:=by
 rw[pf _ (by omega),Int.add_mul,tx (Z/D) D]
 have h1:=q6 Z D
 have h2:=oO Z (show D≠0 by omega)
 have h3:=nQ Z hD
 omega
theorem rO {x y:Re}{d:Rat}(hd:0<d) (h:cH (Re.of d*x) (Re.of d*y)):cH x y:=by
 unfold cH at*
 have e:aw (Re.of d*y-Re.of d*x)=aw (Re.of d*(y-x)):=congrArg aw (aS fun k=>by simp only[ak,am,aE];grind)
 have hp:aw (Re.of d)=1:=by rw[cj];unfold aR;rw[if_neg (by grind),if_pos hd]
 rw[e,aQ,hp,m8] at h
 grind
theorem IM {x y:Re}{d:Rat}(hd:0<d) (h:cH x y):cH (Re.of d*x) (Re.of d*y):=by
 unfold cH at*
 have e:aw (Re.of d*y-Re.of d*x)=aw (Re.of d*(y-x)):=congrArg aw (aS fun k=>by simp only[ak,am,aE];grind)
 have hp:aw (Re.of d)=1:=by rw[cj];unfold aR;rw[if_neg (by grind),if_pos hd]
 rw[e,aQ,hp,m8]
 grind
theorem pc {m n:Int}(h:m≤n):cH (Re.of (m:Rat)) (Re.of (n:Rat)):=of_le (gm.2 h)
theorem Tt (hc:0≤c):cH (Re.of ((Sw a b c:Int):Rat)) (Re.of (((a.den:Int)*((b*b*c).den:Int):Int):Rat)*(Re.of (if b<0 then-b else b)*Re.rt c))∧
 cH (Re.of (((a.den:Int)*((b*b*c).den:Int):Int):Rat)*(Re.of (if b<0 then-b else b)*Re.rt c)) (Re.of (((Sw a b c+1:Int)):Rat)):=by
 have hbc:0≤b*b*c:=by
  have:0≤b*b:=by
   by_cases h:0≤b
   ·exact jW h h
   ·have:=jW (show 0≤ -b by grind) (show 0≤ -b by grind);grind
  exact jW this hc
 have hin:0≤(a.den:Int)*(a.den:Int)*((b*b*c).num*((b*b*c).den:Int)):=
  f9 (f9 (by omega) (by omega)) (f9 (Rat.num_nonneg.2 hbc) (by omega))
 have h1:=qN hin
 have h2:=wg hin
 have h0:=fv ((a.den:Int)*(a.den:Int)*((b*b*c).num*((b*b*c).den:Int)))
 have hn:=t5 (b*b*c)
 have dn:=den_pos a
 have dq:=den_pos (b*b*c)
 generalize hN:(a.den:Int)*(a.den:Int)*((b*b*c).num*((b*b*c).den:Int))=N at*
 have eI:Sw a b c=bK N:=by unfold Sw;rw[hN]
 rw[eI]
 generalize hb':(if b<0 then-b else b)=b'
 have hb2:b'*b'=b*b∧0≤b':=by grind
 generalize hD:(a.den:Int)*((b*b*c).den:Int)=D
 have hD0:0<D:=by subst hD;exact uu dn dq
 have eN:((N:Int):Rat)=((D:Int):Rat)*((D:Int):Rat)*(b*b*c):=by
  subst hN hD
  grind
 have nnR:0≤aw (Re.of ((D:Int):Rat)*(Re.of b'*Re.rt c)):=by
  have p1:aw (Re.of ((D:Int):Rat))=1:=by have:=BB hD0;have:=aU (Re.of ((D:Int):Rat));omega
  have p2:0≤aw (Re.of b'):=by rw[cj];exact kH hb2.2
  have p3:=u5 c
  rw[aQ,p1,m8,aQ]
  exact f9 p2 p3
 have eS: ∀q:Rat,aw (Re.of ((D:Int):Rat)*(Re.of b'*Re.rt c)*(Re.of ((D:Int):Rat)*(Re.of b'*Re.rt c))-Re.of q)=aR ((N:Int):Rat) q:=by
  intro q
  rw[←lI,←cj]
  refine dJ ?_
  have e:Re.of ((D:Int):Rat)*(Re.of b'*Re.rt c)*(Re.of ((D:Int):Rat)*(Re.of b'*Re.rt c))-Re.of q-Re.of (((N:Int):Rat)-q)=Re.of (((D:Int):Rat)*((D:Int):Rat)*(b'*b'))*(Re.rt c*Re.rt c-Re.of c):=aS fun k=>by
   simp only[ak,am,aE];grind
  rw[e,aQ,ng hc,mH]
 refine⟨?_,?_⟩
 ·refine pQ (vN h0) nnR ?_
  rw[fK,eS,←eg]
  exact kH (gm.2 h1)
 ·refine pQ nnR (vN (by omega)) ?_
  have h3:0≤ -aw (Re.of ((D:Int):Rat)*(Re.of b'*Re.rt c)*(Re.of ((D:Int):Rat)*(Re.of b'*Re.rt c))-Re.of (((bK N+1:Int):Rat)*((bK N+1:Int):Rat))):=by
   rw[eS,←eg]
   have:=By (x:=((N:Int):Rat)) (y:=(((bK N+1)*(bK N+1):Int):Rat)) (gm.2 (by omega))
   omega
  rw[←br] at h3
  refine lh (fun k=>?_) h3
  simp only[aD,ak,am,aE];grind
theorem FJ {x y:Re}(h:cH x y):0≤aw (y-x):=h
theorem sF (hc:0≤c):cH (Re.of ((oB a b c:Int):Rat)) (Re.of a+Re.of b*Re.rt c)∧cH (Re.of a+Re.of b*Re.rt c) (Re.of (((oB a b c+1:Int)):Rat)):=by
 by_cases hb:b=0
 ·subst hb
  have e:Re.of a+Re.of 0*Re.rt c=Re.of a:=aS fun k=>by simp only[ao,am,aE];grind
  rw[e,VT rfl]
  have dn:=den_pos a
  obtain⟨h1,h2⟩:=Le (Z:=a.num) dn
  have hn:=t5 a
  have hp:(0:Rat)<((a.den:Int):Rat):=ts.2 dn
  refine⟨of_le (p8 hp ?_),of_le (p8 hp ?_)⟩
  ·rw[hn,←eg];exact gm.2 h1
  ·rw[hn,←eg];exact gm.2 (by omega)
 ·obtain⟨r1,r2⟩:=Tt (a:=a) (b:=b) hc
  have dn:=den_pos a
  have dq:=den_pos (b*b*c)
  have hD0:0<(a.den:Int)*((b*b*c).den:Int):=uu dn dq
  have hDr:(0:Rat)<(((a.den:Int)*((b*b*c).den:Int):Int):Rat):=ts.2 hD0
  have eX:(((a.den:Int)*((b*b*c).den:Int):Int):Rat)*a=((a.num*((b*b*c).den:Int):Int):Rat):=by
   have:=t5 a
   grind
  have en:=fun h2=>aaL (a:=a) (c:=c) hb h2
  have ep:=fun h2=>aaE (a:=a) (c:=c) hb h2
  generalize hD:(a.den:Int)*((b*b*c).den:Int)=D at*
  generalize Sw a b c=I at*
  have key: ∀r:Int,∀Y:Re,oB a b c=XS a b c r→Re.of a+Re.of b*Re.rt c=Re.of a+Y→cH (Re.of ((r:Int):Rat)) (Re.of ((D:Int):Rat)*Y)→cH (Re.of ((D:Int):Rat)*Y) (Re.of (((r+1:Int)):Rat))→
   cH (Re.of ((oB a b c:Int):Rat)) (Re.of a+Re.of b*Re.rt c)∧cH (Re.of a+Re.of b*Re.rt c) (Re.of (((oB a b c+1:Int)):Rat)):=by
   intro r Y e1 e2 g1 g2
   rw[e2,e1]
   have e3:XS a b c r=(a.num*((b*b*c).den:Int)+r).fdiv D:=by unfold XS;rw[hD]
   rw[e3]
   obtain⟨f1,f2⟩:=Le (Z:=a.num*((b*b*c).den:Int)+r) hD0
   refine⟨rO hDr ?_,rO hDr ?_⟩
   ·have a1:=pc f1
    have a2:=fR (FJ a1) (FJ g1)
    refine lh (fun k=>?_) a2
    simp only[ak,ao,am,aE,eg,i5] at*
    grind
   ·have a1:=pc f2
    have a2:=fR (FJ a1) (FJ g2)
    refine lh (fun k=>?_) a2
    simp only[ak,ao,am,aE,eg,i5,Rat.intCast_one] at*
    grind
  by_cases hn:b<0
  ·rw[if_pos hn] at r1 r2
   refine key (-(I+1)) (Re.of b*Re.rt c) (en hn) rfl ?_ ?_
   ·refine lh (fun k=>?_) r2
    simp only[ak,am,aE,tQ,i5,Rat.intCast_one];grind
   ·refine lh (fun k=>?_) r1
    simp only[ak,am,aE,tQ,i5,Rat.intCast_one];grind
  grind
end
theorem ny {d f:Rat}(ha:Rz 2000000 a) (hb:Rz 160000 b) (hc:Rz 160000 c) (hd:Rz 2000000 d) (he:Rz 160000 e) (hf:Rz 160000 f) (h1:Rz 160000 (a-d)) (c0:0≤c) (f0:0≤f):
 Ok Tryz.prog 76 [.a (cR a++cR b++cR c),.a (cR d++cR e++cR f)] [.c (.i .i64 (jm (a-d) b (-e) 0 c f))]:=ck (BE ha hb hc hd he hf h1) ((KT c0 f0).trans (kX c0 f0).symm)
theorem Lh {f:FuncId}{x':Rat}(h:Ok P f ds (dR x::rs)) (e:x=x'):Ok P f ds (dR x'::rs):=by subst e;exact h
theorem R6 {f:FuncId}{x x':Int}(h:Ok P f ds [dI x]) (e:x=x'):Ok P f ds [dI x']:=by subst e;exact h
def yS (a b c:Rat):Rat:=1/(a*a-b*b*c)
def vp (a b c:Rat):Int:=if aR b 0=0∨aR a 0=aR b 0 then aR a 0 else if aR a 0=0 then aR b 0 else aR a 0*aR (a*a-b*b*c) 0
section
variable {a b c:Rat}
theorem W2 (h:(aR b 0==0)=true):vp a b c=aR a 0:=by unfold vp;rw[if_pos (.inl (by simpa using h))]
theorem X1 (h:(aR a 0==aR b 0)=true):vp a b c=aR a 0:=by unfold vp;rw[if_pos (.inr (by simpa using h))]
theorem V8 (h:(aR b 0==0)=false) (h2:(aR a 0==aR b 0)=false) (h3:(aR a 0==0)=true):vp a b c=aR b 0:=by
 unfold vp;rw[if_neg (fun e=>e.elim (by simpa using h) (by simpa using h2)),if_pos (by simpa using h3)]
theorem XE (h:(aR b 0==0)=false) (h2:(aR a 0==aR b 0)=false) (h3:(aR a 0==0)=false):vp a b c=aR a 0*aR (a*a-b*b*c) 0:=by
 unfold vp;rw[if_neg (fun e=>e.elim (by simpa using h) (by simpa using h2)),if_neg (by simpa using h3)]
end
theorem yY:Ok Tryz.prog 119 [] [dR 0]:=by
 refine bU Tryz.func119 rfl ?_
 refine ac rfl (CP (by omega) (by omega)) ?_
 refine ai ?_
 rw[Lj]
 exact a8 bt rfl ae
theorem o6:Ok Tryz.prog 125 [dR a,dR b,dR c] [.a ((cR a++cR b++cR (zc b c)))]:=by
 refine bU Tryz.func125 rfl<|ac rfl (pW) ?_
 refine dr rfl (fun hc1=>?_) (fun hc1=>?_)
 ·refine ac rfl (yY) ?_
  refine ar (aC (us:=(cR a++cR b++cR 0)) rG p6 rfl rfl rfl) ?_
  refine ai ?_
  rw[u3 (t8 hc1)]
  exact a8 ez rfl ae
 ·refine ar (aC (us:=(cR a++cR b++cR c)) rG p6 rfl rfl rfl) ?_
  refine ai ?_
  rw[iD (qa hc1)]
  exact a8 ez rfl ae
theorem Iv {k:Rat}(ha:Rz 6000000 a) (hb:Rz 6000000 b) (hk:Rz 6000000 k):Ok Tryz.prog 240 [.a ((cR a++cR b++cR c)),dR k] [.a ((cR (a*k)++cR (b*k)++cR (zc (b*k) c)))]:=by
 refine bU Tryz.func240 rfl ?_
 refine cU 11 [] ?_
 refine aO rfl (dh (aW ha) (aW hk)) ?_
 refine aO rfl (dh (aW hb) (aW hk)) ?_
 refine aO rfl (o6) ?_
 exact ai (a8 ez rfl ae)
theorem eH:Ok Tryz.prog 53 [dR a] [.a ((cR a++cR 0++cR 0))]:=by
 refine bU Tryz.func53 rfl ?_
 refine cU 4 [] ?_
 refine aO rfl (yY) ?_
 refine aO rfl (yY) ?_
 refine aq (aC (us:=(cR a++cR 0++cR 0)) rG p6 rfl rfl rfl) ?_
 exact ai (a8 ez rfl ae)
theorem MQ (ha:Rz 6000000 a) (hb:Rz 6000000 b):Ok Tryz.prog 166 [.a ((cR a++cR b++cR c))] [.a ((cR (-a)++cR (-b)++cR c))]:=by
 refine bU Tryz.func166 rfl ?_
 refine cU 9 [] ?_
 refine aO rfl (iS (aW ha)) ?_
 refine aO rfl (iS (aW hb)) ?_
 refine aq (aC (us:=(cR (-a)++cR (-b)++cR c)) rG p6 rfl rfl rfl) ?_
 exact ai (a8 ez rfl ae)
theorem Ch (ha:Rz 1000000 a) (hb:Rz 1000000 b) (hc:Rz 1000000 c):Ok Tryz.prog 239 [.a ((cR a++cR b++cR c))] [dR (a*a-b*b*c)]:=by
 refine bU Tryz.func239 rfl ?_
 refine cU 14 [] ?_
 refine aO rfl (dh (aW ha) (aW ha)) ?_
 refine aO rfl (dh (aW hb) (aW hb)) ?_
 refine aO rfl (dh (aW (aF hb hb)) (aW hc)) ?_
 refine aO rfl (gU (aW (aF ha ha)) (aW (aF (aF hb hb) hc))) ?_
 exact ai (a8 bt rfl ae)
theorem BM (ha:Rz 1000000 a) (hb:Rz 1000000 b) (hc:Rz 1000000 c):Ok Tryz.prog 238 [.a ((cR a++cR b++cR c))] [.c (.i .i64 (vp a b c))]:=by
 have hp:=gJ (dK a 0) (dK (a*a-b*b*c) 0)
 refine bU Tryz.func238 rfl ?_
 refine cU 8 [] ?_
 refine aO rfl (dm) ?_
 refine aO rfl (dm) ?_
 refine kT (bp rfl) (fun c1 hb1=>?_)
 cases c1
 ·refine dr rfl (fun hc2=>?_) (fun hc2=>?_)
  ·refine ai ?_
   rw[X1 hc2]
   exact al ae
  ·refine dr rfl (fun hc3=>?_) (fun hc3=>?_)
   ·refine ai ?_
    rw[V8 hb1 hc2 hc3]
    exact al ae
   ·refine ac rfl (Ch (by assumption) (by assumption) (by assumption))<|ac rfl (dm) ?_
    refine ar (cr ((aR a 0)*(aR (a*a-b*b*c) 0)) (dF (by omega) (by omega)) rfl)<|ai ?_
    rw[XE hb1 hc2 hc3]
    exact al ae
 ·refine oC rfl<|ai ?_
  rw[W2 hb1]
  exact al ae
theorem IX {d f:Rat}(ha:Rz 2000000 a) (hb:Rz 160000 b) (hc:Rz 160000 c) (hd:Rz 2000000 d) (he:Rz 160000 e) (hf:Rz 160000 f) (h1:Rz 160000 (a-d)) (c0:0≤c) (f0:0≤f):Ok Tryz.prog 95 [.a ((cR a++cR b++cR c)),.a ((cR d++cR e++cR f))] [.c (.b (jm (a-d) b (-e) 0 c f==0))]:=by
 refine bU Tryz.func95 rfl ?_
 refine ac rfl (ny (by assumption) (by assumption) (by assumption) (by assumption) (by assumption) (by assumption) (by assumption) (by assumption) (by assumption)) ?_
 exact ai (al ae)
theorem Af {d:Rat}(ha:Rz 2000000 a) (hb:Rz 160000 b) (hc:Rz 160000 c) (hd:Rz 2000000 d) (h1:Rz 160000 (a-d)) (c0:0≤c):Ok Tryz.prog 80 [.a ((cR a++cR b++cR c)),dR d] [.c (.i .i64 (jm (a-d) b (-0) 0 c 0))]:=by
 have z0:Rz 160000 (0:Rat):=dL (by decide)
 refine bU Tryz.func80 rfl ?_
 refine cU 5 [] ?_
 refine aO rfl (eH) ?_
 refine aO rfl (ny (by assumption) (by assumption) (by assumption) (by assumption) z0 z0 h1 c0 uC) ?_
 exact ai (al ae)
theorem EI {d:Rat}(hc:0≤c):jm (a-d) b (-0) 0 c 0=bi (a-d) b c:=by
 rw[kX hc uC,fZ hc]
 exact congrArg aw (aS fun n=>by unfold aA;simp only[ao,ak,am,aE];grind)
theorem EQ (hp:GP p) (hq:GP q):Ok Tryz.prog 92 [.a (aj p),.a (aj q)] [.c (.i .i64 (cP p q))]:=ck (wL (hp.a1.mono (by decide)) (hp.b1.mono (by decide)) (hp.a2.mono (by decide)) (hp.b2.mono (by decide)) (hp.c.mono (by decide)) (hq.a1.mono (by decide)) (hq.b1.mono (by decide)) (hq.a2.mono (by decide)) (hq.b2.mono (by decide)) (hq.c.mono (by decide)) ((hp.a1.sub hq.a1).mono (by decide)) ((hp.a2.sub hq.a2).mono (by decide))) (Ix (bz hp) (bz hq))
theorem ym (hp:GP p) (hq:GP q):Ok Tryz.prog 86 [.a (aj p),.a (aj q)] [.c (.b (cP p q==0))]:=jQ (HB (hp.a1.mono (by decide)) (hp.b1.mono (by decide)) (hp.a2.mono (by decide)) (hp.b2.mono (by decide)) (hp.c.mono (by decide)) (hq.a1.mono (by decide)) (hq.b1.mono (by decide)) (hq.a2.mono (by decide)) (hq.b2.mono (by decide)) (hq.c.mono (by decide)) ((hp.a1.sub hq.a1).mono (by decide)) ((hp.a2.sub hq.a2).mono (by decide))) (by rw[Ix (bz hp) (bz hq)];rfl)
theorem xCX (hp:GP p) (hq:GP q):Ok Tryz.prog 76 [.a ((cR p.a1++cR p.b1++cR (zc p.b1 p.c))),.a ((cR q.a1++cR q.b1++cR (zc q.b1 q.c)))] [.c (.i .i64 (cx p q))]:=ny (hp.a1.mono (by decide)) (hp.b1.mono (by decide)) (fi (hp.c.mono (by decide)) (by decide)) (hq.a1.mono (by decide)) (hq.b1.mono (by decide)) (fi (hq.c.mono (by decide)) (by decide)) ((hp.a1.sub hq.a1).mono (by decide)) (ii (bz hp)) (ii (bz hq))
theorem xEX (hp:GP p) (hq:GP q):Ok Tryz.prog 95 [.a ((cR p.a1++cR p.b1++cR (zc p.b1 p.c))),.a ((cR q.a1++cR q.b1++cR (zc q.b1 q.c)))] [.c (.b (cx p q==0))]:=IX (hp.a1.mono (by decide)) (hp.b1.mono (by decide)) (fi (hp.c.mono (by decide)) (by decide)) (hq.a1.mono (by decide)) (hq.b1.mono (by decide)) (fi (hq.c.mono (by decide)) (by decide)) ((hp.a1.sub hq.a1).mono (by decide)) (ii (bz hp)) (ii (bz hq))
theorem xRX (hp:GP p) {v:Rat}(hv:Rz 400 v):Ok Tryz.prog 80 [.a ((cR p.a1++cR p.b1++cR (zc p.b1 p.c))),dR v] [.c (.i .i64 (lp p v))]:=ck (Af (hp.a1.mono (by decide)) (hp.b1.mono (by decide)) (fi (hp.c.mono (by decide)) (by decide)) (hv.mono (by decide)) ((hp.a1.sub hv).mono (by decide)) (ii (bz hp))) (EI (ii (bz hp)))
theorem xCY (hp:GP p) (hq:GP q):Ok Tryz.prog 76 [.a ((cR p.a2++cR p.b2++cR (zc p.b2 p.c))),.a ((cR q.a2++cR q.b2++cR (zc q.b2 q.c)))] [.c (.i .i64 (cy p q))]:=ny (hp.a2.mono (by decide)) (hp.b2.mono (by decide)) (fi (hp.c.mono (by decide)) (by decide)) (hq.a2.mono (by decide)) (hq.b2.mono (by decide)) (fi (hq.c.mono (by decide)) (by decide)) ((hp.a2.sub hq.a2).mono (by decide)) (ii (bz hp)) (ii (bz hq))
theorem xRY (hp:GP p) {v:Rat}(hv:Rz 400 v):Ok Tryz.prog 80 [.a ((cR p.a2++cR p.b2++cR (zc p.b2 p.c))),dR v] [.c (.i .i64 (jL p v))]:=ck (Af (hp.a2.mono (by decide)) (hp.b2.mono (by decide)) (fi (hp.c.mono (by decide)) (by decide)) (hv.mono (by decide)) ((hp.a2.sub hv).mono (by decide)) (ii (bz hp))) (EI (ii (bz hp)))
theorem pM (hx:Rz 6000000 x) (hy:Rz 6000000 y):Ok Tryz.prog 153 [dR x,dR y] [dR (x+y)]:=by
 refine bU Tryz.func153 rfl<|ac rfl (nW (aW hx) (aW hy)) ?_
 exact ai (a8 bt rfl ae)
theorem yg (hx:Rz 6000000 x) (hy:Rz 6000000 y):Ok Tryz.prog 152 [dR x,dR y] [dR (x-y)]:=by
 refine bU Tryz.func152 rfl<|ac rfl (gU (aW hx) (aW hy)) ?_
 exact ai (a8 bt rfl ae)
theorem iQ (hx:Rz 6000000 x) (hy:Rz 6000000 y):Ok Tryz.prog 154 [dR x,dR y] [dR (x*y)]:=by
 refine bU Tryz.func154 rfl<|ac rfl (dh (aW hx) (aW hy)) ?_
 exact ai (a8 bt rfl ae)
theorem OP {m:Rat}(ha:Rz 2000000 a) (hb:Rz 2000000 b) (hm:Rz 2000000 m):Ok Tryz.prog 151 [dR a,dR b,dR m] [.c (.i .i64 (bi a b m))]:=by
 have ka:Rz 6000000 a:=ha.m_
 have kb:Rz 6000000 b:=hb.m_
 have hp:=gJ (dK b 0) (dK m 0)
 have hp2:=gJ (dK a 0) (dK (a*a) (b*b*m))
 refine bU Tryz.func151 rfl ?_
 refine cU 9 [] ?_
 refine aO rfl (dm) ?_
 refine aO rfl (dm) ?_
 refine aO rfl (dm) ?_
 refine aq (cr ((aR b 0)*(aR m 0)) (dF (by omega) (by omega)) rfl) ?_
 refine kT (bp rfl) (fun c1 hb1=>?_)
 cases c1
 ·refine dr rfl (fun hc2=>?_) (fun hc2=>?_)
  ·refine ai ?_
   unfold bi
   rw[yp hc2]
   exact al ae
  ·refine dr rfl (fun hc3=>?_) (fun hc3=>?_)
   ·refine ai ?_
    unfold bi
    rw[yu hc3]
    exact al ae
   ·refine cU 12 [] ?_
    refine aO rfl (iQ (aW ha) (aW ha)) ?_
    refine aO rfl (iQ (aW hb) (aW hb)) ?_
    refine aO rfl (iQ (aW (aF hb hb)) (aW hm)) ?_
    refine aO rfl (oe (aW (aF ha ha)) (aW (aF (aF hb hb) hm))) ?_
    refine aq (cr ((aR a 0)*(aR (a*a) ((b*b)*m))) (dF (by omega) (by omega)) rfl) ?_
    refine ai ?_
    unfold bi
    rw[yc hc3 hb1 hc2]
    exact al ae
 ·refine oC rfl<|ai ?_
  unfold bi
  rw[yb hb1]
  exact al ae
theorem ED {x y:Int}(hx:Bd x) (hy:Bd y):Ok Tryz.prog 230 [.a (([.i .i64 x]++[.i .i64 y]))] [.a (([.i .i64 (-y)]++[.i .i64 (-x)]))]:=by
 unfold Bd at hx hy
 refine bU Tryz.func230 rfl ?_
 refine ar (fG (r:= -y) rfl (by rw[Int.zero_sub];exact sG (by omega) (by omega)) rfl) ?_
 refine ar (fG (r:= -x) rfl (by rw[Int.zero_sub];exact sG (by omega) (by omega)) rfl) ?_
 refine ar (aC (us:=([.i .i64 (-y)]++[.i .i64 (-x)])) oR oa rfl rfl rfl) ?_
 exact ai (a8 i6 rfl ae)
theorem OB {v:Rat}(ha:Rz 4000000 a) (hb:Rz 4000000 b) (hc:Rz 4000000 c) (hv:Rz 4000000 v):Ok Tryz.prog 232 [dR a,dR b,dR c,dR v] [.a (([.i .i64 (Dv a b c v)]++[.i .i64 (Dp a b c v)])),.c (.b (IF a b c v))]:=by
 refine bU Tryz.func232 rfl<|ar (aC (us:=(cR a++cR b++cR c)) rG p6 rfl rfl rfl) ?_
 refine ac rfl (pE (by assumption) (by assumption) (by assumption))<|ac rfl (gX (aW hv)) ?_
 refine kT (bp rfl) (fun c1 hb1=>?_)
 cases c1
 ·refine dr rfl (fun hc2=>?_) (fun hc2=>?_)
  ·have n1:AG a b c v=false:=by unfold AG;rw[dW hb1,ia hc2];rfl
   refine ar (aC (us:=([.i .i64 0]++[.i .i64 0])) oR oa rfl rfl rfl) ?_
   refine ai ?_
   rw[(Di n1).1,(Di n1).2.1,(Di n1).2.2]
   exact a8 i6 rfl (al ae)
  ·have n1:AG a b c v=true:=by unfold AG;rw[dW hb1,dW hc2];rfl
   refine cU 6 [] ?_
   refine aO rfl (ED (qO _) (qp _)) ?_
   refine aO rfl (qP (UX _ _ _) (VZ _ _ _) (Bd.neg (qp _)) (Bd.neg (qO _))) ?_
   refine ai ?_
   rw[(Ev n1).1,(Ev n1).2.1,(Ev n1).2.2]
   exact a8 i6 rfl (al ae)
 ·have n1:AG a b c v=false:=by unfold AG;rw[ia hb1];rfl
  refine oC rfl<|ar (aC (us:=([.i .i64 0]++[.i .i64 0])) oR oa rfl rfl rfl) ?_
  refine ai ?_
  rw[(Di n1).1,(Di n1).2.1,(Di n1).2.2]
  exact a8 i6 rfl (al ae)
theorem TI (hk:GK k) (hp:GP p):Ok Tryz.prog 156 [.a (cg k),.a (aj p)] [.c (.i .i64 (VI k p)),.c (.b (Vt k p))]:=by
 refine bU Tryz.func156 rfl ?_
 refine ac rfl (OB (hp.a1.m_) (hp.b1.m_) (hp.c.m_) (hk.x.m_)) ?_
 refine ac rfl (OB (hp.a2.m_) (hp.b2.m_) (hp.c.m_) (hk.y.m_)) ?_
 refine ac rfl (gX (hk.q.m_)) ?_
 refine kT (bp rfl) (fun c1 hb1=>?_)
 cases c1
 ·refine kT (bp rfl) (fun c2 hb2=>?_)
  cases c2
  ·refine dr rfl (fun hc3=>?_) (fun hc3=>?_)
   ·have m0:Sf k p=false:=by unfold Sf;rw[show IF p.a1 p.b1 p.c k.x=true from dW hb1,show IF p.a2 p.b2 p.c k.y=true from dW hb2,show iV k.q=false from ia hc3];rfl
    have m1:LI k p=false:=by unfold LI;rw[m0];rfl
    have m2:IC k p=false:=by unfold IC;rw[m1];rfl
    have m3:C5 k p=false:=by unfold C5;rw[m2];rfl
    refine ai ?_
    rw[(qw m3).1,(qw m3).2]
    exact al (al ae)
   ·have n1:Sf k p=true:=by unfold Sf;rw[show IF p.a1 p.b1 p.c k.x=true from dW hb1,show IF p.a2 p.b2 p.c k.y=true from dW hb2,show iV k.q=true from dW hc3];rfl
    refine ac rfl (th (Fh _ _ _ _) (FQ _ _ _ _) (Fh _ _ _ _) (FQ _ _ _ _))<|ac rfl (th (Fh _ _ _ _) (FQ _ _ _ _) (Fh _ _ _ _) (FQ _ _ _ _)) ?_
    refine kT (bp rfl) (fun c4 hb4=>?_)
    cases c4
    ·refine dr rfl (fun hc5=>?_) (fun hc5=>?_)
     ·have m1:LI k p=false:=by unfold LI;rw[n1,show Sy k p=true from dW hb4,show Wz k p=false from ia hc5];rfl
      have m2:IC k p=false:=by unfold IC;rw[m1];rfl
      have m3:C5 k p=false:=by unfold C5;rw[m2];rfl
      refine ai ?_
      rw[(qw m3).1,(qw m3).2]
      exact al (al ae)
     ·have n2:LI k p=true:=by unfold LI;rw[n1,show Sy k p=true from dW hb4,show Wz k p=true from dW hc5];rfl
      refine ac rfl (qP L4.1 L4.2 K5.1 K5.2) ?_
      refine dr rfl (fun hc6=>?_) (fun hc6=>?_)
      ·have m2:IC k p=false:=by unfold IC;rw[n2,show smK k p=false from ia hc6];rfl
       have m3:C5 k p=false:=by unfold C5;rw[m2];rfl
       refine ai ?_
       rw[(qw m3).1,(qw m3).2]
       exact al (al ae)
      ·have n3:IC k p=true:=by unfold IC;rw[n2,show smK k p=true from dW hc6];rfl
       refine cU 10 [15,999999] ?_
       refine aO rfl (ED (qO _) (qp _)) ?_
       refine aO rfl (qP PX.1 PX.2 (Bd.neg (qp _)) (Bd.neg (qO _))) ?_
       refine DQ.mk<|jj (dZ i6 rfl) rfl rfl rfl rfl<|dY ?_
       refine dr rfl (fun hc7=>?_) (fun hc7=>?_)
       ·have m3:C5 k p=false:=by unfold C5;rw[n3,show rsK k p=false from ia hc7];rfl
        refine ai ?_
        rw[(qw m3).1,(qw m3).2]
        exact al (al ae)
       ·have n4:C5 k p=true:=by unfold C5;rw[n3,show rsK k p=true from dW hc7];rfl
        refine ac rfl (Br) ?_
        refine ai ?_
        rw[(Jt n4).1,(Jt n4).2]
        exact al (al ae)
    ·refine oC rfl ?_
     have m1:LI k p=false:=by unfold LI;rw[n1,show Sy k p=false from ia hb4];rfl
     have m2:IC k p=false:=by unfold IC;rw[m1];rfl
     have m3:C5 k p=false:=by unfold C5;rw[m2];rfl
     refine ai ?_
     rw[(qw m3).1,(qw m3).2]
     exact al (al ae)
  ·refine oC rfl ?_
   have m0:Sf k p=false:=by unfold Sf;rw[show IF p.a1 p.b1 p.c k.x=true from dW hb1,show IF p.a2 p.b2 p.c k.y=false from ia hb2];rfl
   have m1:LI k p=false:=by unfold LI;rw[m0];rfl
   have m2:IC k p=false:=by unfold IC;rw[m1];rfl
   have m3:C5 k p=false:=by unfold C5;rw[m2];rfl
   refine ai ?_
   rw[(qw m3).1,(qw m3).2]
   exact al (al ae)
 ·refine ar (bp rfl)<|oC rfl ?_
  have m0:Sf k p=false:=by unfold Sf;rw[show IF p.a1 p.b1 p.c k.x=false from ia hb1];rfl
  have m1:LI k p=false:=by unfold LI;rw[m0];rfl
  have m2:IC k p=false:=by unfold IC;rw[m1];rfl
  have m3:C5 k p=false:=by unfold C5;rw[m2];rfl
  refine ai ?_
  rw[(qw m3).1,(qw m3).2]
  exact al (al ae)
theorem Qb (k:Ci) (p:Pt):(p.a1-k.x)*(p.a1-k.x)+(p.a2-k.y)*(p.a2-k.y)+p.c*(p.b1*p.b1+p.b2*p.b2)-k.q=Nh k p:=by unfold Nh L1;grind
theorem Q1 (hk:GK k) (hp:GP p):Ok Tryz.prog 81 [.a (cg k),.a (aj p)] [.c (.i .i64 (qd k p))]:=by
 have b1:=Kp k p
 have b2:=iE (Nh k p) (EP k p) p.c
 have e3:=abh (k:=k) hp
 have wA:=Sb hk hp
 have wB:=NI hk hp
 refine bU Tryz.func81 rfl ?_
 refine ac rfl (TI hk hp) ?_
 refine dr rfl (fun hc1=>?_) (fun hc1=>?_)
 ·have e4:=abu hp hc1
  refine ar (fG (r:= -VI k p) rfl (by rw[Int.zero_sub];exact sG (by omega) (by omega)) rfl) ?_
  refine ai ?_
  rw[←e4]
  exact al ae
 ·refine cU 12 [] ?_
  refine aO rfl (yg (aW (hp.a1)) (aW (hk.x))) ?_
  refine aO rfl (yg (aW (hp.a2)) (aW (hk.y))) ?_
  refine cU 8 [9,10,999999] ?_
  refine DQ.mk<|jj (dZ bt rfl) rfl rfl rfl rfl<|dY ?_
  refine DQ.mk<|jj (dZ bt rfl) rfl rfl rfl rfl<|dY ?_
  refine cU 19 [] ?_
  refine aO rfl (iQ (aW (az (hp.a1) (hk.x))) (aW (az (hp.a1) (hk.x)))) ?_
  refine aO rfl (iQ (aW (az (hp.a2) (hk.y))) (aW (az (hp.a2) (hk.y)))) ?_
  refine aO rfl (pM (aW (aF (az (hp.a1) (hk.x)) (az (hp.a1) (hk.x)))) (aW (aF (az (hp.a2) (hk.y)) (az (hp.a2) (hk.y))))) ?_
  refine aO rfl (iQ (aW (hp.b1)) (aW (hp.b1))) ?_
  refine aO rfl (iQ (aW (hp.b2)) (aW (hp.b2))) ?_
  refine aO rfl (pM (aW (aF (hp.b1) (hp.b1))) (aW (aF (hp.b2) (hp.b2)))) ?_
  refine aO rfl (iQ (aW (hp.c)) (aW (eh (aF (hp.b1) (hp.b1)) (aF (hp.b2) (hp.b2))))) ?_
  refine aO rfl (pM (aW (eh (aF (az (hp.a1) (hk.x)) (az (hp.a1) (hk.x))) (aF (az (hp.a2) (hk.y)) (az (hp.a2) (hk.y))))) (aW (aF (hp.c) (eh (aF (hp.b1) (hp.b1)) (aF (hp.b2) (hp.b2)))))) ?_
  refine cU 8 [] ?_
  refine aO rfl (iQ (aW (az (hp.a1) (hk.x))) (aW (hp.b1))) ?_
  refine aO rfl (iQ (aW (az (hp.a2) (hk.y))) (aW (hp.b2))) ?_
  refine aO rfl (pM (aW (aF (az (hp.a1) (hk.x)) (hp.b1))) (aW (aF (az (hp.a2) (hk.y)) (hp.b2)))) ?_
  refine cU 12 [] ?_
  refine aO rfl (yg (aW (eh (eh (aF (az (hp.a1) (hk.x)) (az (hp.a1) (hk.x))) (aF (az (hp.a2) (hk.y)) (az (hp.a2) (hk.y)))) (aF (hp.c) (eh (aF (hp.b1) (hp.b1)) (aF (hp.b2) (hp.b2)))))) (aW (hk.q))) ?_
  refine aO rfl (pM (aW (eh (aF (az (hp.a1) (hk.x)) (hp.b1)) (aF (az (hp.a2) (hk.y)) (hp.b2)))) (aW (eh (aF (az (hp.a1) (hk.x)) (hp.b1)) (aF (az (hp.a2) (hk.y)) (hp.b2))))) ?_
  refine aO rfl (ck (c:=bi (Nh k p) (EP k p) p.c) (OP (by rw[Qb];exact wA.m_) (wB.m_) (hp.c.m_)) (by rw[Qb];rfl))<|aq (fG (r:= -bi (Nh k p) (EP k p) p.c) rfl (yR b2) rfl) ?_
  refine ai ?_
  rw[←e3]
  exact al ae
theorem NL {n:Rat}(hn:Rz 4000000 n):Ok Tryz.prog 227 [dR n,.a (([.i .i64 (ek a b c)]++[.i .i64 (ei a b c)])),.c (.b (eK a b c))] [.a (([.i .i64 (IB n a b c)]++[.i .i64 (IG n a b c)])),.c (.b (IH n a b c))]:=by
 refine bU Tryz.func227 rfl<|ac rfl (gX (aW hn)) ?_
 refine kT (bp rfl) (fun c1 hb1=>?_)
 cases c1
 ·refine dr rfl (fun hc2=>?_) (fun hc2=>?_)
  ·have n1:AF n a b c=false:=by unfold AF;rw[dW hb1,ia hc2];rfl
   refine ar (aC (us:=([.i .i64 0]++[.i .i64 0])) oR oa rfl rfl rfl) ?_
   refine ai ?_
   rw[(Ed n1).1,(Ed n1).2.1,(Ed n1).2.2]
   exact a8 i6 rfl (al ae)
  ·have n1:AF n a b c=true:=by unfold AF;rw[dW hb1,dW hc2];rfl
   refine ac rfl (th (qO _) (qp _) (UX _ _ _) (VZ _ _ _)) ?_
   refine ai ?_
   rw[(ES n1).1,(ES n1).2.1,(ES n1).2.2]
   exact a8 i6 rfl (al ae)
 ·have n1:AF n a b c=false:=by unfold AF;rw[ia hb1];rfl
  refine oC rfl<|ar (aC (us:=([.i .i64 0]++[.i .i64 0])) oR oa rfl rfl rfl) ?_
  refine ai ?_
  rw[(Ed n1).1,(Ed n1).2.1,(Ed n1).2.2]
  exact a8 i6 rfl (al ae)
theorem Zq (hl:GL l) (hp:GP p):Ok Tryz.prog 150 [.a (fm l),.a (aj p)] [.c (.i .i64 (YQ l p)),.c (.b (Xt l p))]:=by
 refine fD Tryz.func150 88 [.tmp 4,.tmp 5] rfl ?_
 refine aa ?_
 refine ah ?_
 refine aa ?_
 refine ah ?_
 refine ar (aC (us:=(cR p.a1++cR p.b1++cR p.c)) rG p6 rfl rfl rfl) ?_
 refine ac rfl (pE (hp.a1.m_) (hp.b1.m_) (hp.c.m_)) ?_
 refine aa ?_
 refine ah ?_
 refine ac rfl (NL (hl.a.m_)) ?_
 refine aa ?_
 refine ah ?_
 refine ar (aC (us:=(cR p.a2++cR p.b2++cR p.c)) rG p6 rfl rfl rfl) ?_
 refine ac rfl (pE (hp.a2.m_) (hp.b2.m_) (hp.c.m_)) ?_
 refine aa ?_
 refine ah ?_
 refine ac rfl (NL (hl.b.m_)) ?_
 refine aa ?_
 refine ah ?_
 refine ac rfl (gX (hl.c.m_)) ?_
 refine aa ?_
 refine aa ?_
 refine ah ?_
 refine kT (bp rfl) (fun c1 hb1=>?_)
 cases c1
 ·refine kT (bp rfl) (fun c2 hb2=>?_)
  cases c2
  ·refine aX rfl (fun hc3=>?_) (fun hc3=>?_)
   ·refine aa<|ah<|bb ?_
    have m0:Sh l p=false:=by unfold Sh;rw[show IH l.a p.a1 p.b1 p.c=true from dW hb1,show IH l.b p.a2 p.b2 p.c=true from dW hb2,show iV l.c=false from ia hc3];rfl
    have m1:ND l p=false:=by unfold ND;rw[m0];rfl
    have m2:Ij l p=false:=by unfold Ij;rw[m1];rfl
    rw[(wI m2).1,(wI m2).2]
    exact ai (al (al ae))
   ·have n1:Sh l p=true:=by unfold Sh;rw[show IH l.a p.a1 p.b1 p.c=true from dW hb1,show IH l.b p.a2 p.b2 p.c=true from dW hb2,show iV l.c=true from dW hc3];rfl
    refine aJ ?_
    refine aa ?_
    refine ah ?_
    refine ac rfl (qP (OT _ _ _ _) (Qm _ _ _ _) (OT _ _ _ _) (Qm _ _ _ _)) ?_
    refine aa ?_
    refine aa ?_
    refine ah ?_
    refine aX rfl (fun hc4=>?_) (fun hc4=>?_)
    ·refine aa<|ah<|bb ?_
     have m1:ND l p=false:=by unfold ND;rw[n1,show lsK l p=false from ia hc4];rfl
     have m2:Ij l p=false:=by unfold Ij;rw[m1];rfl
     rw[(wI m2).1,(wI m2).2]
     exact ai (al (al ae))
    ·have n2:ND l p=true:=by unfold ND;rw[n1,show lsK l p=true from dW hc4];rfl
     refine aJ<|aa<|aa<|qV 8 [12,999999] ew (by kernel_rfl) rfl rfl<|Aj (by kernel_rfl) (gC i6 rfl)<|dU 1<|bH (dt rfl (ED (qO _) (qp _)))<|bH (dt rfl (qP Rx.1 Rx.2 (Bd.neg (qp _)) (Bd.neg (qO _))))<|dU 3<|i4 (dZ i6 rfl) rfl rfl rfl rfl<|kj<|ry<|fN<|aa ?_
     refine ah ?_
     refine aX rfl (fun hc5=>?_) (fun hc5=>?_)
     ·refine aa<|ah<|bb ?_
      have m2:Ij l p=false:=by unfold Ij;rw[n2,show lrK l p=false from ia hc5];rfl
      rw[(wI m2).1,(wI m2).2]
      exact ai (al (al ae))
     ·have n3:Ij l p=true:=by unfold Ij;rw[n2,show lrK l p=true from dW hc5];rfl
      refine aJ ?_
      refine aa ?_
      refine ah ?_
      refine ac rfl (Br) ?_
      refine bb ?_
      rw[(Jh n3).1,(Jh n3).2]
      exact ai (al (al ae))
  ·refine cO rfl<|aa<|ah<|bb ?_
   have m0:Sh l p=false:=by unfold Sh;rw[show IH l.a p.a1 p.b1 p.c=true from dW hb1,show IH l.b p.a2 p.b2 p.c=false from ia hb2];rfl
   have m1:ND l p=false:=by unfold ND;rw[m0];rfl
   have m2:Ij l p=false:=by unfold Ij;rw[m1];rfl
   rw[(wI m2).1,(wI m2).2]
   exact ai (al (al ae))
 ·refine ar (bp rfl)<|cO rfl<|aa<|ah<|bb ?_
  have m0:Sh l p=false:=by unfold Sh;rw[show IH l.a p.a1 p.b1 p.c=false from ia hb1];rfl
  have m1:ND l p=false:=by unfold ND;rw[m0];rfl
  have m2:Ij l p=false:=by unfold Ij;rw[m1];rfl
  rw[(wI m2).1,(wI m2).2]
  exact ai (al (al ae))
theorem YK (hl:GL l) (hp:GP p):Ok Tryz.prog 78 [.a (fm l),.a (aj p)] [.c (.i .i64 (j6 l p))]:=by
 have e3:=Xe (l:=l) hp
 have wA:=LW hl hp
 have wB:=KG hl hp
 refine bU Tryz.func78 rfl ?_
 refine ac rfl (Zq hl hp) ?_
 refine dr rfl (fun hc1=>?_) (fun hc1=>?_)
 ·have e4:=S3 hp hc1
  refine ai ?_
  rw[←e4]
  exact al ae
 ·refine cU 29 [] ?_
  refine aO rfl (iQ (aW (hl.a)) (aW (hp.a1))) ?_
  refine aO rfl (iQ (aW (hl.b)) (aW (hp.a2))) ?_
  refine aO rfl (pM (aW (aF (hl.a) (hp.a1))) (aW (aF (hl.b) (hp.a2)))) ?_
  refine aO rfl (yg (aW (eh (aF (hl.a) (hp.a1)) (aF (hl.b) (hp.a2)))) (aW (hl.c))) ?_
  refine aO rfl (iQ (aW (hl.a)) (aW (hp.b1))) ?_
  refine aO rfl (iQ (aW (hl.b)) (aW (hp.b2))) ?_
  refine aO rfl (pM (aW (aF (hl.a) (hp.b1))) (aW (aF (hl.b) (hp.b2)))) ?_
  refine aO rfl ((show Ok Tryz.prog 151 _ [.c (.i .i64 (bi (vA l p) (vB l p) p.c))] from OP (wA.m_) (wB.m_) (hp.c.m_))) ?_
  refine ai ?_
  rw[←e3]
  exact al ae
theorem vP (ha:Rz 2000000 a) (hb:Rz 2000000 b) (hc:Rz 2000000 c) (h0: ¬c<0) (hs:jp c=true):Ok Tryz.prog 57 [dR a,dR b,dR c] [.a ((cR (a+b*rt c)++cR 0++cR 0)),.c (.i .i64 0)]:=by
 have kt:Rz 2000000 (rt c):=hc.rt
 have k1:Rz 6000000 (b*rt c):=(hb.mul hc.rt).m_
 refine bU Tryz.func57 rfl<|ac rfl (dm) ?_
 refine dr rfl (fun hc1=>?_) (fun hc1=>?_)
 ·exact absurd (Iy hc1) h0
 ·refine ac rfl (DM (aW hc)) ?_
  refine DW.mk<|aX rfl (fun hc2=>?_) (fun hc2=>?_)
  ·refine qu (σ':=⟨30,[(3,.p 3 0),(4,.p 4 0),(6,.p 6 0),(8,.p 8 0)],[(3,35,cR a),(4,35,cR b),(6,49,zR),(8,35,cR (rt c))]⟩) (aB ⟨rfl,rfl,rfl,rfl,trivial⟩ ⟨rfl,rfl,rfl,by rw[←CB hs];rfl,trivial⟩ rfl)<|nF ?_
   refine cU 6 [] ?_
   refine aO rfl (dh (aW hb) (zaR)) ?_
   refine aO rfl (nW (aW ha) (aW (aF hb (by assumption)))) ?_
   refine aO rfl (eH) ?_
   exact ai (a8 ez rfl (al ae))
  ·exact absurd hs (by rw[hc2];decide)
theorem wl (_ha:Rz 2000000 a) (_hb:Rz 2000000 b) (hc:Rz 2000000 c) (h0: ¬c<0) (hs:jp c=false):Ok Tryz.prog 57 [dR a,dR b,dR c] [.a ((cR a++cR b++cR (zc b c))),.c (.i .i64 0)]:=by
 refine bU Tryz.func57 rfl<|ac rfl (dm) ?_
 refine dr rfl (fun hc1=>?_) (fun hc1=>?_)
 ·exact absurd (Iy hc1) h0
 ·refine ac rfl (DM (aW hc)) ?_
  refine dr rfl (fun hc2=>?_) (fun hc2=>?_)
  ·exact absurd hc2 (by rw[hs];decide)
  ·refine ac rfl (o6) ?_
   exact ai (a8 ez rfl (al ae))
theorem Nk {u v q:Rat}(hx:Rz 50 x) (hu:Rz 50 u) (hy:Rz 50 y) (hv:Rz 50 v) (hq:Rz 100 q) (h0:0<q) (_hb: ¬(u=0∧v=0)) (hs:jp q=true):Ok Tryz.prog 179 [dR x,dR u,dR y,dR v,dR q] [.a (aj (fW x u y v q))]:=by
 have nq: ¬q<0:=by grind
 refine bU Tryz.func179 rfl<|ac rfl (vP (hx.m_) (hu.m_) (hq.m_) nq hs)<|ac rfl (vP (hy.m_) (hv.m_) (hq.m_) nq hs)<|ac rfl (Ra (v':=0) (D1 (dL (by decide)) (dL (by decide)) (fun e=>e.1 rfl)) rfl rfl rfl rfl (Vg rfl rfl))<|ai ?_
 rw[show fW x u y v q=⟨x+u*rt q,0,y+v*rt q,0,0⟩ from by unfold fW;rw[hs];rfl]
 exact a8 bv rfl ae
theorem ML {u v q:Rat}(hx:Rz 50 x) (hu:Rz 50 u) (hy:Rz 50 y) (hv:Rz 50 v) (hq:Rz 100 q) (h0:0<q) (hb: ¬(u=0∧v=0)) (hs:jp q=false):Ok Tryz.prog 179 [dR x,dR u,dR y,dR v,dR q] [.a (aj (fW x u y v q))]:=by
 have nq: ¬q<0:=by grind
 have hz: ∀w:Rat,Rz 300 (zc w q):=fun w=>fi (hq.m_) (by decide)
 refine bU Tryz.func179 rfl<|ac rfl (wl (hx.m_) (hu.m_) (hq.m_) nq hs)<|ac rfl (wl (hy.m_) (hv.m_) (hq.m_) nq hs) ?_
 refine ac rfl (Ra (v':=q) (D1 (hz _) (hz _) (fun e=>e.2.2 (by rw[iD e.1,iD e.2.1]))) rfl rfl rfl rfl (Wb hb))<|ai ?_
 rw[show fW x u y v q=⟨x,u,y,v,q⟩ from by unfold fW;rw[hs];rfl]
 exact a8 bv rfl ae
theorem RY {u v q:Rat}(hx:Rz 50 x) (hu:Rz 50 u) (hy:Rz 50 y) (hv:Rz 50 v) (hq:Rz 100 q) (h0:0<q) (hb: ¬(u=0∧v=0)):Ok Tryz.prog 179 [dR x,dR u,dR y,dR v,dR q] [.a (aj (fW x u y v q))]:=by
 cases hs:jp q with
 |true=>exact Nk hx hu hy hv hq h0 hb hs
 |false=>exact ML hx hu hy hv hq h0 hb hs
theorem VC (hk:GK k) (h0:0<k.q):Ok Tryz.prog 99 [.a (cg k)] [.a (aj (mh k)),.a (aj (ln k))]:=by
 have o1:Rz 6000000 (1:Rat):=jY.m_
 refine bU Tryz.func99 rfl ?_
 refine ac rfl (cW (lg (by decide) (by decide)) (show((1:Int):Rat)=1 from rfl)) ?_
 refine ac rfl (cW (lg (by decide) (by decide)) (show((0:Int):Rat)=0 from rfl)) ?_
 refine cU 19 [] ?_
 refine aO rfl (iS o1) ?_
 refine aO rfl (RY (hk.x.m_) (jY.neg.m_) (hk.y.m_) (dL (by decide)) (hk.q.m_) h0 (fun e=>absurd e.1 (by decide))) ?_
 refine aO rfl (RY (hk.x.m_) (jY.m_) (hk.y.m_) (dL (by decide)) (hk.q.m_) h0 (fun e=>absurd e.1 (by decide))) ?_
 exact ai (a8 bv rfl (a8 bv rfl ae))
theorem Va (hl:GL l):Ok Tryz.prog 261 [.a (fm l)] [dR (dE l)]:=by
 refine bU Tryz.func261 rfl ?_
 refine cU 11 [] ?_
 refine aO rfl (eZ (aW (hl.a)) (aW (hl.a))) ?_
 refine aO rfl (eZ (aW (hl.b)) (aW (hl.b))) ?_
 refine aO rfl (rJ (aW (aF (hl.a) (hl.a))) (aW (aF (hl.b) (hl.b)))) ?_
 exact ai (a8 bt rfl ae)
theorem Vx (hl:GL l) (hk:GK k):Ok Tryz.prog 263 [.a (fm l),dR k.x,dR k.y] [dR (gM l k.x k.y)]:=by
 refine bU Tryz.func263 rfl ?_
 refine cU 12 [] ?_
 refine aO rfl (eZ (aW (hl.a)) (aW (hk.x))) ?_
 refine aO rfl (eZ (aW (hl.b)) (aW (hk.y))) ?_
 refine aO rfl (rJ (aW (aF (hl.a) (hk.x))) (aW (aF (hl.b) (hk.y)))) ?_
 refine aO rfl (jE (aW (eh (aF (hl.a) (hk.x)) (aF (hl.b) (hk.y)))) (aW (hl.c))) ?_
 exact ai (a8 bt rfl ae)
theorem X8 (hl:GL l) (hk:GK k):Ok Tryz.prog 260 [.a (fm l),.a (cg k)] [dR (fz l k)]:=by
 have v1:Rz 6000000 (gM l k.x k.y):=(sx hl hk).m_
 have n1:Rz 6000000 (dE l):=(sR hl).m_
 have n2:Rz 6000000 k.q:=hk.q.m_
 have n3:Rz 6000000 (dE l*k.q):=((sR hl).mul hk.q).m_
 have n4:Rz 6000000 (gM l k.x k.y*gM l k.x k.y):=((sx hl hk).mul (sx hl hk)).m_
 refine bU Tryz.func260 rfl ?_
 refine ac rfl (Vx hl hk) ?_
 refine cU 9 [] ?_
 refine aO rfl (Va hl) ?_
 refine aO rfl (eZ (by first|assumption|exact eE (by assumption) (by decide)) (by first|assumption|exact eE (hk.q) (by decide))) ?_
 refine aO rfl (eZ (by first|assumption|exact eE (by assumption) (by decide)) (by first|assumption|exact eE (by assumption) (by decide))) ?_
 refine aO rfl (jE (by first|assumption|exact eE (aF (by assumption) (hk.q)) (by decide)) (by first|assumption|exact eE (aF (by assumption) (by assumption)) (by decide))) ?_
 exact ai (a8 bt rfl ae)
theorem aaM (hl:GL l) (hm:GL m):Ok Tryz.prog 265 [.a (fm l),.a (fm m)] [dR (rQ l m)]:=by
 refine bU Tryz.func265 rfl ?_
 refine cU 11 [] ?_
 refine aO rfl (eZ (aW (hl.a)) (aW (hm.b))) ?_
 refine aO rfl (eZ (aW (hm.a)) (aW (hl.b))) ?_
 refine aO rfl (jE (aW (aF (hl.a) (hm.b))) (aW (aF (hm.a) (hl.b)))) ?_
 exact ai (a8 bt rfl ae)
theorem Vw (hk:GK k) (hd:GK d):Ok Tryz.prog 258 [.a (cg k),.a (cg d)] [.c (.b (tg k d))]:=by
 refine bU Tryz.func258 rfl ?_
 refine ac rfl (jl (aW (hk.x)) (aW (hd.x))) ?_
 refine kT (bp rfl) (fun c1 hb1=>?_)
 cases c1
 ·refine ai ?_
  rw[show tg k d=false from by unfold tg tD;rw[hb1];rfl]
  exact al ae
 ·refine ac rfl (jl (aW (hk.y)) (aW (hd.y)))<|ai ?_
  rw[show tg k d=(aR k.y d.y==0) from by unfold tg tD;rw[hb1];rfl]
  exact al ae
theorem RU (ha1:Rz 200 a1) (hb1:Rz 200 b1) (ha2:Rz 200 a2) (hb2:Rz 200 b2) (hc:Rz 200 c) (hs:jp c=true):Ok Tryz.prog 189 [dR a1,dR b1,dR a2,dR b2,dR c] [.a (aj (fW a1 b1 a2 b2 c))]:=by
 have kt:Rz 6000000 (rt c):=hc.rt.m_
 have k1:Rz 6000000 (b1*rt c):=(hb1.mul hc.rt).m_
 have k2:Rz 6000000 (b2*rt c):=(hb2.mul hc.rt).m_
 refine bU Tryz.func189 rfl ?_
 refine ac rfl (rK (by first|assumption|exact eE hc (by decide))) ?_
 refine DW.mk<|aX rfl (fun hc1=>?_) (fun hc1=>?_)
 ·refine qu (σ':=⟨37,[(5,.p 5 0),(6,.p 6 0),(7,.p 7 0),(8,.p 8 0),(9,.p 9 0),(10,.p 10 0),(11,.p 11 0)],[(5,35,cR a1),(6,35,cR b1),(7,35,cR a2),(8,35,cR b2),(9,35,cR c),(10,46,zP),(11,35,cR (rt c))]⟩) (aB ⟨rfl,rfl,rfl,rfl,rfl,rfl,rfl,trivial⟩ ⟨rfl,rfl,rfl,rfl,rfl,rfl,by rw[←CB hs];rfl,trivial⟩ rfl)<|nF ?_
  refine cU 12 [] ?_
  refine aO rfl (eZ (by first|assumption|exact eE hb1 (by decide)) (by first|assumption|exact eE (by assumption) (by decide))) ?_
  refine aO rfl (rJ (by first|assumption|exact eE ha1 (by decide)) (by first|assumption|exact eE (aF hb1 (by assumption)) (by decide))) ?_
  refine aO rfl (eZ (by first|assumption|exact eE hb2 (by decide)) (by first|assumption|exact eE (by assumption) (by decide))) ?_
  refine aO rfl (rJ (by first|assumption|exact eE ha2 (by decide)) (by first|assumption|exact eE (aF hb2 (by assumption)) (by decide))) ?_
  refine aq (aC (us:=(cR (a1+(b1*(rt c)))++cR (a2+(b2*(rt c))))) ro q9 rfl rfl rfl) ?_
  refine aO rfl (o4) ?_
  refine ai ?_
  rw[show fW a1 b1 a2 b2 c=⟨a1+b1*rt c,0,a2+b2*rt c,0,0⟩ from by unfold fW;rw[hs];rfl]
  exact a8 bv rfl ae
 ·exact absurd hc1 (by rw[hs];decide)
theorem RN (_ha1:Rz 200 a1) (_hb1:Rz 200 b1) (_ha2:Rz 200 a2) (_hb2:Rz 200 b2) (hc:Rz 200 c) (hs:jp c=false):Ok Tryz.prog 189 [dR a1,dR b1,dR a2,dR b2,dR c] [.a (aj (fW a1 b1 a2 b2 c))]:=by
 refine fD Tryz.func189 37 [.cell 10 46] rfl ?_
 refine aa ?_
 refine ah ?_
 refine aa ?_
 refine aa ?_
 refine ah ?_
 refine ac rfl (rK (aW hc)) ?_
 refine aa ?_
 refine ah ?_
 refine aX rfl (fun hc1=>?_) (fun hc1=>?_)
 ·exact absurd hc1 (by rw[hs];decide)
 ·refine aJ<|aa<|bo<|bR 5<|a7 (aC (us:=(cR a1++cR b1++cR a2++cR b2++cR c)) Mr FF rfl rfl rfl) ?_
  refine fN<|bb ?_
  rw[show fW a1 b1 a2 b2 c=⟨a1,b1,a2,b2,c⟩ from by unfold fW;rw[hs];rfl]
  exact ai (a8 bv rfl ae)
theorem KX (ha1:Rz 200 a1) (hb1:Rz 200 b1) (ha2:Rz 200 a2) (hb2:Rz 200 b2) (hc:Rz 200 c):Ok Tryz.prog 189 [dR a1,dR b1,dR a2,dR b2,dR c] [.a (aj (fW a1 b1 a2 b2 c))]:=by
 cases hs:jp c with
 |true=>exact RU ha1 hb1 ha2 hb2 hc hs
 |false=>exact RN ha1 hb1 ha2 hb2 hc hs
theorem WE (hl:GL l) (hk:GK k):Ok Tryz.prog 200 [.a (fm l),.a (cg k)] [.c (.s ((iu l k).length) (aI aj (iu l k)))]:=by
 have h0:=hl.n
 have z1:Rz 6000000 (gM l k.x k.y):=(sx hl hk).m_
 have z2:Rz 6000000 (dE l):=(sR hl).m_
 have z3:Rz 6000000 (gM l k.x k.y/dE l):=(GB hl hk).m_
 have z4:Rz 6000000 (l.b/dE l):=(Hw hl).m_
 have z5:Rz 6000000 (-l.a/dE l):=(Ga hl).m_
 have z6:Rz 6000000 l.a:=hl.a.m_
 have z7:Rz 6000000 l.b:=hl.b.m_
 have z8:Rz 6000000 (-l.a):=z6.neg
 have z9:Rz 6000000 (gM l k.x k.y/dE l*l.a):=((GB hl hk).mul hl.a).m_
 have zA:Rz 6000000 (gM l k.x k.y/dE l*l.b):=((GB hl hk).mul hl.b).m_
 have zB:Rz 6000000 k.x:=hk.x.m_
 have zC:Rz 6000000 k.y:=hk.y.m_
 refine bU Tryz.func200 rfl ?_
 refine cU 7 [] ?_
 refine aO rfl (X8 hl hk) ?_
 refine aO rfl (Va hl) ?_
 refine ac rfl (ce) ?_
 refine dr rfl (fun hc1=>?_) (fun hc1=>?_)
 ·refine ai ?_
  rw[R8 hc1]
  exact al ae
 ·have g1: ¬aR (fz l k) 0<0:=of_decide_eq_false hc1
  refine cU 9 [] ?_
  refine aO rfl (Vx hl hk) ?_
  refine aO rfl (vz (by first|assumption|exact eE (by assumption) (by decide)) (by first|assumption|exact eE (by assumption) (by decide)) (by assumption)) ?_
  refine cU 16 [] ?_
  refine aO rfl (eZ (by first|assumption|exact eE (lT (by assumption) (by assumption) (by assumption)) (by decide)) (by first|assumption|exact eE (by assumption) (by decide))) ?_
  refine aO rfl (jE (by first|assumption|exact eE (by assumption) (by decide)) (by first|assumption|exact eE (aF (lT (by assumption) (by assumption) (by assumption)) (by assumption)) (by decide))) ?_
  refine aO rfl (eZ (by first|assumption|exact eE (lT (by assumption) (by assumption) (by assumption)) (by decide)) (by first|assumption|exact eE (by assumption) (by decide))) ?_
  refine aO rfl (jE (by first|assumption|exact eE (by assumption) (by decide)) (by first|assumption|exact eE (aF (lT (by assumption) (by assumption) (by assumption)) (by assumption)) (by decide))) ?_
  refine ac rfl (ce) ?_
  refine dr rfl (fun hc2=>?_) (fun hc2=>?_)
  ·refine ar (aC (us:=(cR (k.x-(((gM l k.x k.y)/(dE l))*l.a))++cR (k.y-(((gM l k.x k.y)/(dE l))*l.b)))) ro q9 rfl rfl rfl) ?_
   refine ac rfl (o4) ?_
   refine ar (cV (n:=1) (us:=(cR (k.x-(((gM l k.x k.y)/(dE l))*l.a))++cR 0++cR (k.y-(((gM l k.x k.y)/(dE l))*l.b))++cR 0++cR 0)) iC rfl rfl rfl (by decide) (by decide) rfl) ?_
   refine ai ?_
   rw[RA hc1 hc2]
   exact al ae
  ·have g2: ¬aR (fz l k) 0=0:=by simpa using hc2
   refine cU 11 [] ?_
   refine aO rfl (vz (by first|assumption|exact eE (by assumption) (by decide)) (by first|assumption|exact eE (by assumption) (by decide)) (by assumption)) ?_
   refine aO rfl (xC (by first|assumption|exact eE (by assumption) (by decide))) ?_
   refine aO rfl (vz (by first|assumption|exact eE (Rz.neg (by assumption)) (by decide)) (by first|assumption|exact eE (by assumption) (by decide)) (by assumption)) ?_
   refine cU 16 [] ?_
   refine aO rfl (xC (by first|assumption|exact eE (lT (by assumption) (by assumption) (by assumption)) (by decide))) ?_
   refine aO rfl (xC (by first|assumption|exact eE (lT (Rz.neg (by assumption)) (by assumption) (by assumption)) (by decide))) ?_
   refine aO rfl (KX ((uP hl hk).m_) ((Hw hl).neg.m_) ((uG hl hk).m_) ((Ga hl).neg.m_) ((AY hl hk).m_)) ?_
   refine aO rfl (KX ((uP hl hk).m_) ((Hw hl).m_) ((uG hl hk).m_) ((Ga hl).m_) ((AY hl hk).m_)) ?_
   refine ac rfl (oz (JU hl hk g1 g2) (JI hl hk g1 g2)) ?_
   refine dr rfl (fun hc3=>?_) (fun hc3=>?_)
   ·refine ar (cV (n:=2) (us:=aj (GH l k)++aj (Jj l k)) iC rfl rfl rfl (by decide) (by decide) rfl) ?_
    refine ai ?_
    rw[Rw hc1 hc2 hc3]
    exact al ae
   ·refine ar (cV (n:=2) (us:=aj (Jj l k)++aj (GH l k)) iC rfl rfl rfl (by decide) (by decide) rfl) ?_
    refine ai ?_
    rw[R9 hc1 hc2 hc3]
    exact al ae
theorem Z8 (hl:GL l) (hm:GL m):Ok Tryz.prog 201 [.a (fm l),.a (fm m)] [.c (.s ((ko l m).length) (aI aj (ko l m))),.c (.i .i64 (re l m))]:=by
 have z1:Rz 6000000 (rQ l m):=(FP hl hm).m_
 have z2:Rz 6000000 (SZ l m):=(PH hl hm).m_
 have z3:Rz 6000000 (TP l m):=(Rn hl hm).m_
 refine bU Tryz.func201 rfl ?_
 refine ac rfl (aaM hl hm) ?_
 refine cU 24 [] ?_
 refine aO rfl (eZ (aW (hl.c)) (aW (hm.b))) ?_
 refine aO rfl (eZ (aW (hm.c)) (aW (hl.b))) ?_
 refine aO rfl (jE (aW (aF (hl.c) (hm.b))) (aW (aF (hm.c) (hl.b)))) ?_
 refine aO rfl (eZ (aW (hl.a)) (aW (hm.c))) ?_
 refine aO rfl (eZ (aW (hm.a)) (aW (hl.c))) ?_
 refine aO rfl (jE (aW (aF (hl.a) (hm.c))) (aW (aF (hm.a) (hl.c)))) ?_
 refine ac rfl (ce) ?_
 refine dr rfl (fun hc1=>?_) (fun hc1=>?_)
 ·have h0:rQ l m≠0:=fun e=>absurd hc1 (by rw[ij.2 e];decide)
  refine cU 11 [] ?_
  refine aO rfl (vz z2 z1 h0) ?_
  refine aO rfl (vz z3 z1 h0) ?_
  refine aq (aC (us:=(cR (SZ l m/rQ l m)++cR (TP l m/rQ l m))) ro q9 rfl rfl rfl) ?_
  refine aO rfl (o4) ?_
  refine aq (cV (n:=1) (us:=(cR (SZ l m/rQ l m)++cR 0++cR (TP l m/rQ l m)++cR 0++cR 0)) iC rfl rfl rfl (by decide) (by decide) rfl) ?_
  refine ai ?_
  rw[(HQ hc1).1,(HQ hc1).2]
  exact al (al ae)
 ·refine ac rfl (ce) ?_
  refine kT (bp rfl) (fun c2 hb2=>?_)
  cases c2
  ·refine mi rfl<|ai ?_
   rw[(D8 hc1 hb2).1,(D8 hc1 hb2).2]
   exact al (al ae)
  ·refine ac rfl (ce) ?_
   refine dr rfl (fun hc3=>?_) (fun hc3=>?_)
   ·refine ai ?_
    rw[(Dz hc1 hb2 hc3).1,(Dz hc1 hb2 hc3).2]
    exact al (al ae)
   ·refine ai ?_
    rw[(DB hc1 hc3).1,(DB hc1 hc3).2]
    exact al (al ae)
theorem Za (hk:GK k) (hd:GK d) (hn:tg k d=false):Ok Tryz.prog 259 [.a (cg k),.a (cg d)] [.a (fm (mN k d)),.c (.i .i64 0)]:=by
 have zt:Rz 6000000 (2:Rat):=I5.m_
 have f1:Rz 6000000 (IZ k):=(AQ hk).m_
 have f2:Rz 6000000 (IZ d):=(AQ hd).m_
 refine bU Tryz.func259 rfl ?_
 refine ac rfl (jQ (Vw hk hd) hn) ?_
 refine mi rfl ?_
 refine ac rfl (cW (nC (by decide) (by decide)) (show((2:Int):Rat)=2 from rfl)) ?_
 refine cU 15 [] ?_
 refine aO rfl (eZ (aW (hk.x)) (aW (hk.x))) ?_
 refine aO rfl (eZ (aW (hk.y)) (aW (hk.y))) ?_
 refine aO rfl (rJ (aW (aF (hk.x) (hk.x))) (aW (aF (hk.y) (hk.y)))) ?_
 refine aO rfl (jE (aW (eh (aF (hk.x) (hk.x)) (aF (hk.y) (hk.y)))) (aW (hk.q))) ?_
 refine cU 15 [] ?_
 refine aO rfl (eZ (aW (hd.x)) (aW (hd.x))) ?_
 refine aO rfl (eZ (aW (hd.y)) (aW (hd.y))) ?_
 refine aO rfl (rJ (aW (aF (hd.x) (hd.x))) (aW (aF (hd.y) (hd.y)))) ?_
 refine aO rfl (jE (aW (eh (aF (hd.x) (hd.x)) (aF (hd.y) (hd.y)))) (aW (hd.q))) ?_
 refine cU 18 [] ?_
 refine aO rfl (jE (aW (hd.x)) (aW (hk.x))) ?_
 refine aO rfl (eZ (zaR) (aW (az (hd.x) (hk.x)))) ?_
 refine aO rfl (jE (aW (hd.y)) (aW (hk.y))) ?_
 refine aO rfl (eZ (zaR) (aW (az (hd.y) (hk.y)))) ?_
 refine aO rfl (jE (aW (az (eh (aF (hd.x) (hd.x)) (aF (hd.y) (hd.y))) (hd.q))) (aW (az (eh (aF (hk.x) (hk.x)) (aF (hk.y) (hk.y))) (hk.q)))) ?_
 refine aq (aC (us:=(cR (2*(d.x-k.x))++cR (2*(d.y-k.y))++cR ((((d.x*d.x)+(d.y*d.y))-d.q)-(((k.x*k.x)+(k.y*k.y))-k.q)))) Sp OD rfl rfl rfl) ?_
 exact ai (a8 AI rfl (al ae))
theorem aaP (hk:GK k) (hd:GK d):Ok Tryz.prog 199 [.a (cg k),.a (cg d)] [.c (.s ((ob k d).length) (aI aj (ob k d))),.c (.i .i64 (Ap k d))]:=by
 refine bU Tryz.func199 rfl ?_
 refine ac rfl (Vw hk hd) ?_
 refine dr rfl (fun hc1=>?_) (fun hc1=>?_)
 ·refine ac rfl (jl (aW (hk.q)) (aW (hd.q))) ?_
  refine dr rfl (fun hc2=>?_) (fun hc2=>?_)
  ·refine ai ?_
   rw[(Pa hc1 hc2).1,(Pa hc1 hc2).2]
   exact al (al ae)
  ·refine ai ?_
   rw[(Qk hc1 hc2).1,(Qk hc1 hc2).2]
   exact al (al ae)
 ·refine ac rfl (Za hk hd hc1)<|ac rfl (WE (FC hk hd hc1) hk)<|ai ?_
  rw[(IQ hc1).1,(IQ hc1).2]
  exact al (al ae)
theorem Zz (hk:GK k) (hd:GK d):Ok Tryz.prog 171 [.a (cg k),.a (cg d)] [.c (.b (Bz k d))]:=by
 refine bU Tryz.func171 rfl ?_
 refine ac rfl (jl (aW (hk.x)) (aW (hd.x))) ?_
 refine kT (bp rfl) (fun c1 hb1=>?_)
 cases c1
 ·refine ar (bp rfl)<|ai ?_
  rw[show Bz k d=false from by unfold Bz tD;rw[hb1];rfl]
  exact al ae
 ·refine ac rfl (jl (aW (hk.y)) (aW (hd.y))) ?_
  refine kT (bp rfl) (fun c2 hb2=>?_)
  cases c2
  ·refine ai ?_
   rw[show Bz k d=false from by unfold Bz tD;rw[hb1,hb2];rfl]
   exact al ae
  ·refine ac rfl (jl (aW (hk.q)) (aW (hd.q)))<|ai ?_
   rw[show Bz k d=(aR k.q d.q==0) from by unfold Bz tD;rw[hb1,hb2];rfl]
   exact al ae
theorem aa3 (hl:GL l) (hm:GL m):Ok Tryz.prog 172 [.a (fm l),.a (fm m)] [.c (.b (BX l m))]:=by
 refine bU Tryz.func172 rfl ?_
 refine cU 41 [] ?_
 refine aO rfl (de (aW (hl.a)) (aW (hm.b))) ?_
 refine aO rfl (de (aW (hl.b)) (aW (hm.a))) ?_
 refine aO rfl (jl (aW (aF (hl.a) (hm.b))) (aW (aF (hl.b) (hm.a)))) ?_
 refine xi (bp rfl) (fun c1 hb1=>?_)
 cases c1
 ·refine aq (bp rfl)<|ai ?_
  rw[show BX l m=false from by unfold BX tD;rw[hb1];rfl]
  exact al ae
 ·refine aO rfl (de (aW (hl.a)) (aW (hm.c))) ?_
  refine aO rfl (de (aW (hl.c)) (aW (hm.a))) ?_
  refine aO rfl (jl (aW (aF (hl.a) (hm.c))) (aW (aF (hl.c) (hm.a)))) ?_
  refine xi (bp rfl) (fun c2 hb2=>?_)
  cases c2
  ·refine ai ?_
   rw[show BX l m=false from by unfold BX tD;rw[hb1,hb2];rfl]
   exact al ae
  ·refine aO rfl (de (aW (hl.b)) (aW (hm.c))) ?_
   refine aO rfl (de (aW (hl.c)) (aW (hm.b))) ?_
   refine aO rfl (jl (aW (aF (hl.b) (hm.c))) (aW (aF (hl.c) (hm.b)))) ?_
   refine ai ?_
   rw[show BX l m=(aR (l.b*m.c) (l.c*m.b)==0) from by unfold BX tD;rw[hb1,hb2];rfl]
   exact al ae
theorem Q0 (hl:GL l) (_hf:GP f) (_ht:GP t) (hm:GL m) (_hu:GP u) (_hv:GP v):Ok Tryz.prog 94 [.a (([.b false]++fm l++dA++[.b false]++aj f++aj t)),.a (([.b false]++fm m++dA++[.b false]++aj u++aj v))] [.c (.b (i7 (Cv.seg l f t) (Cv.seg m u v)))]:=by
 refine bU Tryz.func94 rfl ?_
 refine ar (bW jb rfl) ?_
 refine ar (bW jb rfl) ?_
 refine ar (iv rfl rfl iI rfl) ?_
 refine mi rfl ?_
 refine ar (bW jb rfl) ?_
 refine mi rfl ?_
 refine ar (dx (fm l) AI rfl (by kernel_rfl)) ?_
 refine ar (dx (fm m) AI rfl (by kernel_rfl)) ?_
 refine ac rfl (aa3 hl hm) ?_
 exact ai (al ae)
theorem S5 (hl:GL l) (_hf:GP f) (_ht:GP t) (hm:GL m) (_hu:GP u) (_hv:GP v):Ok Tryz.prog 117 [.a (([.b false]++fm l++dA++[.b false]++aj f++aj t)),.a (([.b false]++fm m++dA++[.b false]++aj u++aj v))] [.c (.s ((j9 (Cv.seg l f t) (Cv.seg m u v)).length) (aI aj (j9 (Cv.seg l f t) (Cv.seg m u v)))),.c (.i .i64 (Io (Cv.seg l f t) (Cv.seg m u v)))]:=by
 refine bU Tryz.func117 rfl ?_
 refine ar (bW jb rfl) ?_
 refine ar (bp rfl) ?_
 refine mi rfl ?_
 refine ar (bW jb rfl) ?_
 refine mi rfl ?_
 refine ar (bW jb rfl) ?_
 refine mi rfl ?_
 refine ar (dx (fm l) AI rfl (by kernel_rfl)) ?_
 refine ar (dx (fm m) AI rfl (by kernel_rfl)) ?_
 refine ac rfl (Z8 hl hm) ?_
 exact ai (al (al ae))
theorem NH (_hl:GL l) (_hf:GP f) (_ht:GP t) (_hd:GK d) (_hu:GP u) (_hv:GP v):Ok Tryz.prog 94 [.a (([.b false]++fm l++dA++[.b false]++aj f++aj t)),.a (([.b true]++dA++cg d++[.b w2]++aj u++aj v))] [.c (.b (i7 (Cv.seg l f t) (Cv.arc d w2 u v)))]:=by
 refine bU Tryz.func94 rfl ?_
 refine ar (bW jb rfl) ?_
 refine ar (bW jb rfl) ?_
 refine ar (iv rfl rfl iI rfl) ?_
 refine oC rfl ?_
 exact ai (al ae)
theorem UI (hl:GL l) (_hf:GP f) (_ht:GP t) (hd:GK d) (_hu:GP u) (_hv:GP v):Ok Tryz.prog 117 [.a (([.b false]++fm l++dA++[.b false]++aj f++aj t)),.a (([.b true]++dA++cg d++[.b w2]++aj u++aj v))] [.c (.s ((j9 (Cv.seg l f t) (Cv.arc d w2 u v)).length) (aI aj (j9 (Cv.seg l f t) (Cv.arc d w2 u v)))),.c (.i .i64 (Io (Cv.seg l f t) (Cv.arc d w2 u v)))]:=by
 refine bU Tryz.func117 rfl ?_
 refine ar (bW jb rfl) ?_
 refine ar (bp rfl) ?_
 refine mi rfl ?_
 refine ar (bW jb rfl) ?_
 refine mi rfl ?_
 refine ar (bW jb rfl) ?_
 refine oC rfl ?_
 refine ar (dx (fm l) AI rfl (by kernel_rfl)) ?_
 refine ar (dx (cg d) rg rfl (by kernel_rfl)) ?_
 refine ac rfl (WE hl hd) ?_
 exact ai (al (al ae))
theorem Rv (_hk:GK k) (_hf:GP f) (_ht:GP t) (_hm:GL m) (_hu:GP u) (_hv:GP v):Ok Tryz.prog 94 [.a (([.b true]++dA++cg k++[.b w]++aj f++aj t)),.a (([.b false]++fm m++dA++[.b false]++aj u++aj v))] [.c (.b (i7 (Cv.arc k w f t) (Cv.seg m u v)))]:=by
 refine bU Tryz.func94 rfl ?_
 refine ar (bW jb rfl) ?_
 refine ar (bW jb rfl) ?_
 refine ar (iv rfl rfl iI rfl) ?_
 refine oC rfl ?_
 exact ai (al ae)
theorem TR (hk:GK k) (_hf:GP f) (_ht:GP t) (hm:GL m) (_hu:GP u) (_hv:GP v):Ok Tryz.prog 117 [.a (([.b true]++dA++cg k++[.b w]++aj f++aj t)),.a (([.b false]++fm m++dA++[.b false]++aj u++aj v))] [.c (.s ((j9 (Cv.arc k w f t) (Cv.seg m u v)).length) (aI aj (j9 (Cv.arc k w f t) (Cv.seg m u v)))),.c (.i .i64 (Io (Cv.arc k w f t) (Cv.seg m u v)))]:=by
 refine bU Tryz.func117 rfl ?_
 refine ar (bW jb rfl) ?_
 refine ar (bp rfl) ?_
 refine ar (bW jb rfl) ?_
 refine mi rfl ?_
 refine ar (bW jb rfl) ?_
 refine oC rfl ?_
 refine ar (dx (fm m) AI rfl (by kernel_rfl)) ?_
 refine ar (dx (cg k) rg rfl (by kernel_rfl)) ?_
 refine ac rfl (WE hm hk) ?_
 exact ai (al (al ae))
theorem OZ (hk:GK k) (_hf:GP f) (_ht:GP t) (hd:GK d) (_hu:GP u) (_hv:GP v):Ok Tryz.prog 94 [.a (([.b true]++dA++cg k++[.b w]++aj f++aj t)),.a (([.b true]++dA++cg d++[.b w2]++aj u++aj v))] [.c (.b (i7 (Cv.arc k w f t) (Cv.arc d w2 u v)))]:=by
 refine bU Tryz.func94 rfl ?_
 refine ar (bW jb rfl) ?_
 refine ar (bW jb rfl) ?_
 refine ar (iv rfl rfl iI rfl) ?_
 refine mi rfl ?_
 refine ar (bW jb rfl) ?_
 refine oC rfl ?_
 refine ar (dx (cg k) rg rfl (by kernel_rfl)) ?_
 refine ar (dx (cg d) rg rfl (by kernel_rfl)) ?_
 refine ac rfl (Zz hk hd) ?_
 exact ai (al ae)
theorem Uk (hk:GK k) (_hf:GP f) (_ht:GP t) (hd:GK d) (_hu:GP u) (_hv:GP v):Ok Tryz.prog 117 [.a (([.b true]++dA++cg k++[.b w]++aj f++aj t)),.a (([.b true]++dA++cg d++[.b w2]++aj u++aj v))] [.c (.s ((j9 (Cv.arc k w f t) (Cv.arc d w2 u v)).length) (aI aj (j9 (Cv.arc k w f t) (Cv.arc d w2 u v)))),.c (.i .i64 (Io (Cv.arc k w f t) (Cv.arc d w2 u v)))]:=by
 refine bU Tryz.func117 rfl ?_
 refine ar (bW jb rfl) ?_
 refine ar (bp rfl) ?_
 refine ar (bW jb rfl) ?_
 refine oC rfl ?_
 refine ar (dx (cg k) rg rfl (by kernel_rfl)) ?_
 refine ar (dx (cg d) rg rfl (by kernel_rfl)) ?_
 refine ac rfl (aaP hk hd) ?_
 exact ai (al (al ae))
theorem Qu {c:Cv}(hc:c.good) (hp:GP p) (hq:GP q):Ok Tryz.prog 74 [.a (ap c),.a (aj p),.a (aj q)] [.c (.i .i64 (c.ord p q))]:=by
 cases c with
 |seg l f t=>exact JD hc.1 hc.2.1 hc.2.2 hp hq
 |arc k w f t=>exact IV hc.1 hc.2.1 hc.2.2 hp hq
theorem HE {c:Cv}(hc:c.good) (hp:GP p):Ok Tryz.prog 20 [.a (ap c),.a (aj p)] [.c (.b (c.on p))]:=by
 cases c with
 |seg l f t=>exact aa8 hc.1 hc.2.1 hc.2.2 hp
 |arc k w f t=>exact V5 hc.1 hc.2.1 hc.2.2 hp
theorem LB {c:Cv}(hc:c.good) {L:List Pt}(hL: ∀p∈L,GP p) (lL:L.length≤100):Ok Tryz.prog 118 [.a (ap c),.c (.s ((L).length) (aI aj (L)))] [.c (.s ((cE c L).length) (aI aj (cE c L)))]:=by
 refine fD Tryz.func118 64 [.tmp 4] rfl<|aa<|ah<|aa<|ah<|aa<|aa<|ah<|aT<|bF (ι:={n:Nat // n≤L.length}) (fun i=>⟨64,[(1,.v (.c (.s ((L).length) (aI aj (L))))),(2,.p 2 0),(5,.v (.c (.s ((cE c (L.take i.1)).length) (aI aj (cE c (L.take i.1)))))),(6,.v (.c (.i .i64 (i.1:Int))))],[(2,48,ap c)]⟩) (fun i=>L.length-i.1) ⟨0,iH _⟩ (aB ⟨rfl,rfl,rfl,rfl,trivial⟩ ⟨rfl,trivial⟩ rfl) ?_
 rintro⟨n,h2⟩
 replace h2:n≤L.length:=h2
 show Dw _ _ ⟨64,[(1,.v (.c (.s ((L).length) (aI aj (L))))),(2,.p 2 0),(5,.v (.c (.s ((cE c (L.take n)).length) (aI aj (cE c (L.take n)))))),(6,.v (.c (.i .i64 (n:Int))))],[(2,48,ap c)]⟩ _
 refine aa<|aa<|ah ?_
 refine aX rfl (fun hc1=>?_) (fun hc1=>?_)
 ·have g1:n<L.length:=by have:=of_decide_eq_true hc1;omega
  obtain⟨O,eO⟩: ∃O,cE c (L.take n)=O:=⟨_,rfl⟩
  have hO: ∀p∈O,GP p:=fun p hp=>hL p (u9 (my (by rw[eO];exact hp)))
  have lO:O.length≤100:=by
   have:=rS (c:=c) (l:=L.take n)
   rw[eO,fQ] at this;omega
  refine qu (σ':=⟨64,[(1,.v (.c (.s ((L).length) (aI aj (L))))),(2,.p 2 0),(5,.v (.c (.s ((O).length) (aI aj (O))))),(6,.v (.c (.i .i64 (n:Int))))],[(2,48,ap c)]⟩) (aB ⟨rfl,rfl,by rw[←eO];rfl,rfl,trivial⟩ ⟨rfl,trivial⟩ rfl) ?_
  refine aJ<|aa<|aT<|aa<|ah<|aa<|aT<|bF (ι:={j:Nat // j≤O.length∧ ∀r,r<j→(c).ord (O.getD r dPt) (L.getD n dPt)<0}) (fun i=>⟨64,[(1,.v (.c (.s ((L).length) (aI aj (L))))),(2,.p 2 0),(5,.v (.c (.s ((O).length) (aI aj (O))))),(6,.v (.c (.i .i64 (n:Int)))),(7,.v (.c (.i .i64 (i.1:Int))))],[(2,48,ap c)]⟩) (fun i=>O.length-i.1) ⟨0,iH _,fun r h=>absurd h (Nat.not_lt_zero r)⟩ (aB ⟨rfl,rfl,rfl,rfl,rfl,trivial⟩ ⟨rfl,trivial⟩ rfl) ?_
  rintro⟨j,h3,h4⟩
  replace h3:j≤O.length:=h3
  replace h4: ∀r,r<j→(c).ord (O.getD r dPt) (L.getD n dPt)<0:=h4
  show Dw _ _ ⟨64,[(1,.v (.c (.s ((L).length) (aI aj (L))))),(2,.p 2 0),(5,.v (.c (.s ((O).length) (aI aj (O))))),(6,.v (.c (.i .i64 (n:Int)))),(7,.v (.c (.i .i64 (j:Int))))],[(2,48,ap c)]⟩ _
  refine aa<|aa<|di 17 [] ?_
  refine xi (bp rfl) (fun c2 hb2=>?_)
  cases c2
  ·have g2:O.length≤j:=by have:=of_decide_eq_false hb2;omega
   have hs:np c (L.getD n dPt) O=j:=F7 h3 h4 (.inl (by omega))
   have g4: ¬(j<O.length∧cP (O.getD j dPt) (L.getD n dPt)=0):=fun h=>by omega
   refine ba rfl<|bG<|aa<|aa<|lq 15 rfl rfl<|dU 3<|bH (aZ (c:=false) (fe rfl) (decide_eq_false (by omega))) ?_
   refine yQ<|dz<|bj<|ba rfl<|aJ ?_
   rcases jZ j with hj0|hj0
   ·refine Fm 15 [10,14] ew (by kernel_rfl) rfl rfl<|gO rfl (mm iC rfl) rfl ?_
    refine gO rfl (bp rfl) rfl<|gO rfl (bp rfl) rfl ?_
    refine gO rfl (sN (n':=0) (us':=[]) (mx (j:=(j:Int)) (n:=(O).length) (xs:=aI aj (O)) (us:=aI aj (O.take j)) fw rfl rfl (by omega) (aG aP _) (o8 aP _ _) rfl) (by omega) (by rw[hj0];rfl)) rfl ?_
    refine gO rfl (q8 iC rfl rfl rfl) rfl ?_
    refine gO rfl (bp rfl) rfl<|gO rfl (bp rfl) rfl<|gO rfl (mR dPt aP g1 fw rfl) rfl<|gO rfl (db (us:=aj (L.getD n dPt)) bv rfl rfl rfl rfl) rfl ?_
    refine gO rfl (cV (n:=1) (us:=aj (L.getD n dPt)) iC rfl rfl rfl (by decide) (by decide) rfl) rfl ?_
    refine Db rfl<|gO rfl (bp rfl) rfl<|gO rfl (bp rfl) rfl<|gO rfl (qW (j:=(j:Int)) (n:=(O).length) (xs:=aI aj (O)) (n':=O.length-j) (us:=aI aj (O.drop j)) fw rfl rfl (by omega) (aG aP _) (by omega) (o7 aP _ _) rfl) rfl ?_
    refine Db rfl ?_
    refine Hi (x0:=.tmp 52) (t1:=58) (y1:=.tmp 57) (t2:=62) (y2:=.tmp 61) (N':=O.length+1) (zs':=aI aj (O.take j++(L.getD n dPt)::O.drop j)) iC (by decide) rfl rfl rfl rfl rfl rfl (rfl) (by rw[aG aP,fP]) (by kernel_rfl) (by kernel_rfl) (by decide) rfl rfl rfl rfl (by omega) (by rw[x4,hj0];rfl) (by omega) (jA (by omega)) (fun cg3 rg3 hga3 hgb3 hgc3=>?_)
    refine fN ?_
    refine dj (t:=5) (m:=20) (us:=aI aj (O.take j++(L.getD n dPt)::O.drop j)) rfl rfl (lE (n:=O.length+1) (by rw[aG aP,l9 (by omega)]) (by assumption) (by omega)) (by omega) (by assumption) (iX (by rw[aG aP,l9 (by omega)]))<|bo<|bR 1<|a7 (fB (by omega) rfl)<|fN ?_
    exact⟨⟨n+1,g1⟩,aB ⟨rfl,rfl,by rw[ru g1,eO,xL hs g4,l9 h3];rfl,rfl,trivial⟩ ⟨rfl,trivial⟩ rfl,by show L.length-(n+1)<L.length-n;omega⟩
   ·refine Fm 15 [4,10,14] ew (by kernel_rfl) rfl rfl<|gO rfl (mm iC rfl) rfl ?_
    refine gO rfl (bp rfl) rfl<|gO rfl (bp rfl) rfl<|gO rfl ((mx (j:=(j:Int)) (n:=(O).length) (xs:=aI aj (O)) (us:=aI aj (O.take j)) fw rfl rfl (by omega) (aG aP _) (o8 aP _ _) rfl)) rfl ?_
    refine Db rfl<|gO rfl (bp rfl) rfl<|gO rfl (bp rfl) rfl<|gO rfl (mR dPt aP g1 fw rfl) rfl<|gO rfl (db (us:=aj (L.getD n dPt)) bv rfl rfl rfl rfl) rfl ?_
    refine gO rfl (cV (n:=1) (us:=aj (L.getD n dPt)) iC rfl rfl rfl (by decide) (by decide) rfl) rfl ?_
    refine Db rfl<|gO rfl (bp rfl) rfl<|gO rfl (bp rfl) rfl<|gO rfl (qW (j:=(j:Int)) (n:=(O).length) (xs:=aI aj (O)) (n':=O.length-j) (us:=aI aj (O.drop j)) fw rfl rfl (by omega) (aG aP _) (by omega) (o7 aP _ _) rfl) rfl ?_
    refine Db rfl ?_
    refine GA (x0:=.tmp 48) (t1:=52) (y1:=.tmp 51) (t2:=58) (y2:=.tmp 57) (t3:=62) (y3:=.tmp 61) (N':=O.length+1) (zs':=aI aj (O.take j++(L.getD n dPt)::O.drop j)) iC (by decide) rfl rfl rfl rfl rfl rfl rfl rfl (by rw[aG aP,fQ,fT h3];rfl) (rfl) (by rw[aG aP,fP]) (by kernel_rfl) (by kernel_rfl) (hj0) rfl rfl rfl rfl rfl rfl (by omega) (x4.symm) (by omega) (jA (by omega)) (fun cg4 rg4 hga4 hgb4 hgc4=>?_)
    refine fN ?_
    refine dj (t:=5) (m:=20) (us:=aI aj (O.take j++(L.getD n dPt)::O.drop j)) rfl rfl (lE (n:=O.length+1) (by rw[aG aP,l9 (by omega)]) (by assumption) (by omega)) (by omega) (by assumption) (iX (by rw[aG aP,l9 (by omega)]))<|ah<|ar (fB (by omega) rfl) ?_
    exact⟨⟨n+1,g1⟩,aB ⟨rfl,rfl,by rw[ru g1,eO,xL hs g4,l9 h3];rfl,rfl,trivial⟩ ⟨rfl,trivial⟩ rfl,by show L.length-(n+1)<L.length-n;omega⟩
  ·have g2:j<O.length:=by have:=of_decide_eq_true hb2;omega
   refine aq (cD (ag _) aY rfl)<|aq (mR dPt aP g2 fw rfl)<|aq (db (us:=aj (O.getD j dPt)) bv rfl rfl rfl rfl) ?_
   refine aq (mR dPt aP g1 fw rfl)<|aq (db (us:=aj (L.getD n dPt)) bv rfl rfl rfl rfl) ?_
   refine aO rfl (Qu hc (rF hO j) (rF hL n)) ?_
   refine aX rfl (fun hc5=>?_) (fun hc5=>?_)
   ·have g3:(c).ord (O.getD j dPt) (L.getD n dPt)<0:=of_decide_eq_true hc5
    refine aJ<|aT<|ah<|ar (fB (by omega) rfl) ?_
    exact⟨⟨j+1,g2,fun r hr=>(Nat.lt_succ_iff_lt_or_eq.1 hr).elim (h4 r) (fun e=>by rw[e];exact g3)⟩,aB ⟨rfl,rfl,rfl,rfl,rfl,trivial⟩ ⟨rfl,trivial⟩ rfl,by show O.length-(j+1)<O.length-j;omega⟩
   ·have g3: ¬(c).ord (O.getD j dPt) (L.getD n dPt)<0:=of_decide_eq_false hc5
    have hs:np c (L.getD n dPt) O=j:=F7 h3 h4 (.inr g3)
    refine bG<|aa<|aa<|lq 15 rfl rfl<|dU 3<|bH (aZ (c:=true) (fe rfl) (decide_eq_true (by omega))) ?_
    refine dU 3<|bH (mR dPt aP g2 fw rfl)<|bH (db (us:=aj (O.getD j dPt)) bv rfl rfl rfl rfl) ?_
    refine dU 2<|bH (mR dPt aP g1 fw rfl)<|bH (db (us:=aj (L.getD n dPt)) bv rfl rfl rfl rfl) ?_
    refine bH (dt rfl (LM (rF hO j) (rF hL n)))<|yQ<|dz<|bj ?_
    refine aX rfl (fun hc6=>?_) (fun hc6=>?_)
    ·have g4:cP (O.getD j dPt) (L.getD n dPt)=0:=by simpa using hc6
     refine bG<|ah<|ar (fB (by omega) rfl) ?_
     exact⟨⟨n+1,g1⟩,aB ⟨rfl,rfl,by rw[ru g1,eO,Ux hs g2 g4];rfl,rfl,trivial⟩ ⟨rfl,trivial⟩ rfl,by show L.length-(n+1)<L.length-n;omega⟩
    ·have g5:cP (O.getD j dPt) (L.getD n dPt)≠0:=by simpa using hc6
     have g4: ¬(j<O.length∧cP (O.getD j dPt) (L.getD n dPt)=0):=fun h=>g5 h.2
     refine aJ ?_
     rcases jZ j with hj0|hj0
     ·refine Fm 15 [10,14] ew (by kernel_rfl) rfl rfl<|gO rfl (mm iC rfl) rfl ?_
      refine gO rfl (bp rfl) rfl<|gO rfl (bp rfl) rfl ?_
      refine gO rfl (sN (n':=0) (us':=[]) (mx (j:=(j:Int)) (n:=(O).length) (xs:=aI aj (O)) (us:=aI aj (O.take j)) fw rfl rfl (by omega) (aG aP _) (o8 aP _ _) rfl) (by omega) (by rw[hj0];rfl)) rfl ?_
      refine gO rfl (q8 iC rfl rfl rfl) rfl ?_
      refine gO rfl (bp rfl) rfl<|gO rfl (bp rfl) rfl<|gO rfl (mR dPt aP g1 fw rfl) rfl<|gO rfl (db (us:=aj (L.getD n dPt)) bv rfl rfl rfl rfl) rfl ?_
      refine gO rfl (cV (n:=1) (us:=aj (L.getD n dPt)) iC rfl rfl rfl (by decide) (by decide) rfl) rfl ?_
      refine Db rfl<|gO rfl (bp rfl) rfl<|gO rfl (bp rfl) rfl<|gO rfl (qW (j:=(j:Int)) (n:=(O).length) (xs:=aI aj (O)) (n':=O.length-j) (us:=aI aj (O.drop j)) fw rfl rfl (by omega) (aG aP _) (by omega) (o7 aP _ _) rfl) rfl ?_
      refine Db rfl ?_
      refine Hi (x0:=.tmp 52) (t1:=58) (y1:=.tmp 57) (t2:=62) (y2:=.tmp 61) (N':=O.length+1) (zs':=aI aj (O.take j++(L.getD n dPt)::O.drop j)) iC (by decide) rfl rfl rfl rfl rfl rfl (rfl) (by rw[aG aP,fP]) (by kernel_rfl) (by kernel_rfl) (by decide) rfl rfl rfl rfl (by omega) (by rw[x4,hj0];rfl) (by omega) (jA (by omega)) (fun cg7 rg7 hga7 hgb7 hgc7=>?_)
      refine fN ?_
      refine dj (t:=5) (m:=20) (us:=aI aj (O.take j++(L.getD n dPt)::O.drop j)) rfl rfl (lE (n:=O.length+1) (by rw[aG aP,l9 (by omega)]) (by assumption) (by omega)) (by omega) (by assumption) (iX (by rw[aG aP,l9 (by omega)]))<|bo<|bR 1<|a7 (fB (by omega) rfl)<|fN ?_
      exact⟨⟨n+1,g1⟩,aB ⟨rfl,rfl,by rw[ru g1,eO,xL hs g4,l9 h3];rfl,rfl,trivial⟩ ⟨rfl,trivial⟩ rfl,by show L.length-(n+1)<L.length-n;omega⟩
     ·refine Fm 15 [4,10,14] ew (by kernel_rfl) rfl rfl<|gO rfl (mm iC rfl) rfl ?_
      refine gO rfl (bp rfl) rfl<|gO rfl (bp rfl) rfl<|gO rfl ((mx (j:=(j:Int)) (n:=(O).length) (xs:=aI aj (O)) (us:=aI aj (O.take j)) fw rfl rfl (by omega) (aG aP _) (o8 aP _ _) rfl)) rfl ?_
      refine Db rfl<|gO rfl (bp rfl) rfl<|gO rfl (bp rfl) rfl<|gO rfl (mR dPt aP g1 fw rfl) rfl<|gO rfl (db (us:=aj (L.getD n dPt)) bv rfl rfl rfl rfl) rfl ?_
      refine gO rfl (cV (n:=1) (us:=aj (L.getD n dPt)) iC rfl rfl rfl (by decide) (by decide) rfl) rfl ?_
      refine Db rfl<|gO rfl (bp rfl) rfl<|gO rfl (bp rfl) rfl<|gO rfl (qW (j:=(j:Int)) (n:=(O).length) (xs:=aI aj (O)) (n':=O.length-j) (us:=aI aj (O.drop j)) fw rfl rfl (by omega) (aG aP _) (by omega) (o7 aP _ _) rfl) rfl ?_
      refine Db rfl ?_
      refine GA (x0:=.tmp 48) (t1:=52) (y1:=.tmp 51) (t2:=58) (y2:=.tmp 57) (t3:=62) (y3:=.tmp 61) (N':=O.length+1) (zs':=aI aj (O.take j++(L.getD n dPt)::O.drop j)) iC (by decide) rfl rfl rfl rfl rfl rfl rfl rfl (by rw[aG aP,fQ,fT h3];rfl) (rfl) (by rw[aG aP,fP]) (by kernel_rfl) (by kernel_rfl) (hj0) rfl rfl rfl rfl rfl rfl (by omega) (x4.symm) (by omega) (jA (by omega)) (fun cg8 rg8 hga8 hgb8 hgc8=>?_)
      refine fN ?_
      refine dj (t:=5) (m:=20) (us:=aI aj (O.take j++(L.getD n dPt)::O.drop j)) rfl rfl (lE (n:=O.length+1) (by rw[aG aP,l9 (by omega)]) (by assumption) (by omega)) (by omega) (by assumption) (iX (by rw[aG aP,l9 (by omega)]))<|ah<|ar (fB (by omega) rfl) ?_
      exact⟨⟨n+1,g1⟩,aB ⟨rfl,rfl,by rw[ru g1,eO,xL hs g4,l9 h3];rfl,rfl,trivial⟩ ⟨rfl,trivial⟩ rfl,by show L.length-(n+1)<L.length-n;omega⟩
 ·have hi:L.length≤n:=by have:=of_decide_eq_false hc1;omega
  refine bG<|aa<|ah<|bb ?_
  rw[←MK (c:=c) (l:=L) hi]
  exact ai (al ae)
end Go.Proofs.YtkmdgigkbhmilaaGreat
