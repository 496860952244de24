/-Arguments opened:a place,a spot (structs of small integers). No condition. -/
import Derived.Test.YtkmdgigkbhmilaaGreatAnA
namespace Go.Proofs.YtkmdgigkbhmilaaGreat
open Go.ChangeShapes Go.WideShapes Go.ChangeAt Go.RowKit Go.Deep
section
variable {H:Type}{enc:TypeId×Value→H}{w:World}{base:Nat}{spare:Nat→Bool}{held:Bool}
set_option maxRecDepth 100000 in
theorem Nl {fuel:Nat}{cs:List Value}{x:DataW H×List MemPlace}(h:DataW.trod enc Tryz.prog w base spare held fuel 29 cs=some x): ∃p:SpD,p.Wf∧RdCs RN w cs (UX p):=by
 obtain⟨xs,n,_,_,hcl,hxl,hf⟩:=DataW.trod_struct (P:=Tryz.prog) Tryz.underlying29 h
 have hcl:cs.length=3:=hcl.trans (by kernel_rfl)
 have hxl:xs.length=3:=hxl.trans (by kernel_rfl)
 match cs,hcl with
 |[c0,c1,c2],_=>
  have h0:DataW.trod enc Tryz.prog w base spare held n 27 [c0]=xs[0]? :=hf 0 _ rfl
  have h1:DataW.trod enc Tryz.prog w base spare held n 27 [c1]=xs[1]? :=hf 1 _ rfl
  have h2:DataW.trod enc Tryz.prog w base spare held n 5 [c2]=xs[2]? :=hf 2 _ rfl
  rw[List.getElem?_eq_getElem (by omega)] at h0 h1 h2
  obtain⟨y0,e0,_,b0⟩:=DataW.trod_int (P:=Tryz.prog) Tryz.underlying27 h0
  obtain⟨y1,e1,_,b1⟩:=DataW.trod_int (P:=Tryz.prog) Tryz.underlying27 h1
  obtain⟨y2,e2,_,b2⟩:=DataW.trod_int (P:=Tryz.prog) Tryz.underlying5 h2
  simp at e0 e1 e2
  subst e0 e1 e2
  simp[Lit.wf,IntKind.min,IntKind.max,IntKind.signed,IntKind.bits] at b0 b1 b2
  exact⟨⟨y0,y1,y2⟩,⟨by(dsimp only;omega),by(dsimp only;omega),by(dsimp only;omega),by(dsimp only;omega),by(dsimp only;omega),by(dsimp only;omega)⟩,RdCs.cons (.i _ _) (RdCs.cons (.i _ _) (RdCs.cons (.i _ _) RdCs.nil))⟩
end
end Go.Proofs.YtkmdgigkbhmilaaGreat
namespace Go.Proofs.YtkmdgigkbhmilaaGreat
open Go.ChangeShapes Go.WideShapes Go.ChangeAt Go.RowKit
theorem Nx:Tryz.pinned.checked.prog.funcNamed Rows.monotoneAtRow.func=some 3:=by kernel_rfl
theorem Nj:joinedFacts Tryz.pinned.checked.prog 3 Tryz.f3 Rows.monotoneAtSpec Rows.monotoneAtRow=true:=by kernel_rfl
end Go.Proofs.YtkmdgigkbhmilaaGreat
namespace Go.Proofs.YtkmdgigkbhmilaaGreat
open Go Go.RowKit
theorem Jp (w:Bool):sW w≠0:=by cases w<;>decide+kernel
theorem OI {m:Rat}(h:go m=false):m≠0:=fun e=>by rw[e,vN] at h;cases h
theorem Pu {w:Bool}{m:Rat}(h:go m=false):rB (sW w) m=sW w:=M4 (Jp w) (OI h)
theorem OK {w:Bool}{m:Rat}(h:go m=false):rC (sW w) m=zc (sW w) m:=by unfold rC;rw[if_neg (fun e=>e.elim (Jp w) (OI h)),fS (Jp w)]
theorem Pg {p:Pt}(hp:GP p):VSz p.a1 p.b1 (zc p.b1 p.c):=⟨hp.a1.mono (by decide),hp.b1.mono (by decide),Rz.zc hp.c (by decide),fW (b9 hp)⟩
theorem Pi {x:Rat}(hx:Rz 400 x):VSz x 0 0:=⟨hx.mono (by decide),Rz.zero (by decide),Rz.zero (by decide),Rat.le_refl⟩
theorem Va {p:Pt}(hp:GP p) {x:Rat}(hx:Rz 400 x):Ok Tryz.prog 72 [.a ((cR p.a1++cR p.b1++cR (zc p.b1 p.c))),.a ((cR x++cR 0++cR 0))] [.c (.i .i64 (lH p x))]:=i5 (Ih (Pg hp) (Pi hx)) (uU (fW (b9 hp)))
theorem Vf {p:Pt}(hp:GP p) {x:Rat}(hx:Rz 400 x):Ok Tryz.prog 72 [.a ((cR x++cR 0++cR 0)),.a ((cR p.a1++cR p.b1++cR (zc p.b1 p.c)))] [.c (.i .i64 (-lH p x))]:=i5 (Ih (Pi hx) (Pg hp)) (by
 rw[jH Rat.le_refl (fW (b9 hp)),kQ (b9 hp),←dz]
 exact congrArg bR (Re.ext fun n=>by unfold pX qu dX;simp only[bt,bp,bK,cJ,bT];grind))
theorem wg {c:Cv}(hc:c.good) {x:Rat}(hx:Rz 400 x):Ok Tryz.prog 60 [.a (aB c),.a ((cR x++cR 0++cR 0))] [.c (.b (iV c x))]:=by
 refine Ok.fn Tryz.func60 19 [.tmp 4] rfl<|aa<|ab<|ag<|aa<|aR 15 rfl rfl<|ap 1<|aj (aA (us:=au c.p) bo rfl rfl (dW _) rfl rfl) ?_
 refine aj (am rfl (i4))<|ap 1<|aj (am rfl (Va (cn hc) hx))<|ap 1 ?_
 refine fb (bN rfl) (fun c1 hb1=>?_)
 cases c1
 ·refine bk<|az<|ar<|an ?_
  rw[show iV c x=false from by unfold iV;rw[hb1];rfl]
  exact aq (aE ae)
 ·refine ap 2<|aj (aA (us:=au c.q) bo rfl rfl (dY _) rfl rfl) ?_
  refine aj (am rfl (i4))<|aj (am rfl (Vf (cH hc) hx))<|bk<|az<|ar<|an ?_
  rw[show iV c x=decide (-lH c.q x≤0) from by unfold iV;rw[hb1];rfl]
  exact aq (aE ae)
theorem Rh {l:Ln}{f t:Pt}(vc:CvV (Cv.seg l f t)) {x:Rat}(hx:Rz 2 x) (hb:rV (Cv.seg l f t) x=false):Ok Tryz.prog 14 [.a (([.b false]++dV l++cS++[.b false]++au f++au t)),dR x] [.a (cS),.c (.i .i64 1)]:=by
 have hf:=vc.g.2.1
 have ht:=vc.g.2.2
 have hl:=vc.g.1
 have hB:=hb
 rw[jm] at hB
 refine Ok.fn Tryz.func14 64 [.cell 4 49,.tmp 5] rfl<|aa<|ab<|al 2<|aC (ai de rfl) rfl<|ag<|aa<|aa<|aR 9 rfl rfl<|ap 1<|aj (am rfl (se hl hf ht)) ?_
 refine fb (bN rfl) (fun c1 hb1=>?_)
 cases c1
 ·refine ap 2<|aj (am rfl (dP))<|aj (am rfl (wg (c:=(Cv.seg l f t)) vc.g (hx.m_)))<|bk<|az<|ar ?_
  refine aw rfl (fun hc2=>?_) (fun hc2=>?_)
  ·refine aa<|ab<|ah (aN (us:=cS) lQ de rfl rfl rfl) ?_
   refine ag<|an ?_
   exact aq (a7 dx rfl (aE ae))
  ·exact absurd hB (by rw[show(Cv.seg l f t).vert=false from hb1,show iV (Cv.seg l f t) x=true from by simpa using hc2];decide)
 ·refine bk<|az<|ar<|bg rfl<|aa<|ab<|ah (aN (us:=cS) lQ de rfl rfl rfl) ?_
  refine ag<|an ?_
  exact aq (a7 dx rfl (aE ae))
theorem Rx {l:Ln}{f t:Pt}(vc:CvV (Cv.seg l f t)) {x:Rat}(hx:Rz 2 x) (hb:rV (Cv.seg l f t) x=true):Ok Tryz.prog 14 [.a (([.b false]++dV l++cS++[.b false]++au f++au t)),dR x] [.a ((cR ((l.c-l.a*x)/l.b)++cR 0++cR 0)),.c (.i .i64 0)]:=by
 have hf:=vc.g.2.1
 have ht:=vc.g.2.2
 have hl:=vc.g.1
 have hB:=hb
 rw[jm] at hB
 refine Ok.fn Tryz.func14 64 [.cell 4 49,.tmp 5] rfl<|aa<|ab<|al 2<|aC (ai de rfl) rfl<|ag<|aa<|aa<|aR 9 rfl rfl<|ap 1<|aj (am rfl (se hl hf ht)) ?_
 refine fb (bN rfl) (fun c1 hb1=>?_)
 cases c1
 ·refine ap 2<|aj (am rfl (dP))<|aj (am rfl (wg (c:=(Cv.seg l f t)) vc.g (hx.m_)))<|bk<|az<|ar ?_
  refine aw rfl (fun hc2=>?_) (fun hc2=>?_)
  ·exact absurd hB (by rw[show iV (Cv.seg l f t) x=false from by simpa using hc2,Bool.and_false];decide)
  ·have hv:cx f t≠0:=fun e=>absurd (show(Cv.seg l f t).vert=false from hb1) (by show ¬(cx f t==0)=false;rw[e];decide)
   have hb0:l.b≠0:=fun e=>hv ((oK hl hf ht (by have:=vc.sp;simpa [Cv.supp,Cv.p] using this) (by have:=vc.sq;simpa [Cv.supp,Cv.q] using this) vc.ne).2 e)
   refine ao<|aa<|aa<|ab<|ag<|bg rfl<|aa<|bZ 19 [6,999999] aU (by kernel_rfl) rfl rfl<|ap 2<|aj (cD (cR l.c) aD rfl (by kernel_rfl))<|ap 2<|aj (cD (cR l.a) aD rfl (by kernel_rfl))<|ap 1<|aj (am rfl (cW (aX (hl.a)) (aX hx))) ?_
   refine aj (am rfl (eP (aX (hl.c)) (aX (Rz.mul (hl.a) hx))))<|ap 2<|aj (cD (cR l.b) aD rfl (by kernel_rfl))<|aj (am rfl (pQ ((hl.c.sub (hl.a.mul hx)).m_) (hl.b.m_) hb0))<|ap 3<|ba (ai bJ rfl) rfl<|gz (fG aD rfl) rfl rfl rfl rfl<|bk<|bG<|ar<|aa<|ab<|al 1<|ah (am rfl (dP)) ?_
   refine ag<|an ?_
   exact aq (a7 dx rfl (aE ae))
 ·exact absurd hB (by rw[show(Cv.seg l f t).vert=true from hb1];exact Bool.false_ne_true)
theorem QZ {k:Ci}{w:Bool}{f t:Pt}(vc:CvV (Cv.arc k w f t)) {x:Rat}(hx:Rz 2 x) (hb:rV (Cv.arc k w f t) x=false):Ok Tryz.prog 14 [.a (([.b true]++cS++ca k++[.b w]++au f++au t)),dR x] [.a (cS),.c (.i .i64 1)]:=by
 have hf:=vc.g.2.1
 have ht:=vc.g.2.2
 have hk:=vc.g.1
 have hB:=hb
 rw[jm] at hB
 refine Ok.fn Tryz.func14 64 [.cell 4 49,.tmp 5] rfl<|aa<|ab<|al 2<|aC (ai de rfl) rfl<|ag<|aa<|aa<|aR 9 rfl rfl<|ap 1<|aj (am rfl ((show Ok _ _ _ [.c (.b false)] from qp hk hf ht)))<|ap 3<|aj (am rfl (dP))<|aj (am rfl (wg (c:=(Cv.arc k w f t)) vc.g (hx.m_))) ?_
 refine bk<|az<|ar ?_
 refine aw rfl (fun hc1=>?_) (fun hc1=>?_)
 ·refine aa<|ab<|ah (aN (us:=cS) lQ de rfl rfl rfl) ?_
  refine ag<|an ?_
  exact aq (a7 dx rfl (aE ae))
 ·exact absurd hB (by rw[show(Cv.arc k w f t).vert=false from rfl,show iV (Cv.arc k w f t) x=true from by simpa using hc1];decide)
theorem NI {k:Ci}{w:Bool}{f t:Pt}(vc:CvV (Cv.arc k w f t)) {x:Rat}(hx:Rz 2 x) (hb:rV (Cv.arc k w f t) x=true) (hs:go (gB k x)=true):Ok Tryz.prog 14 [.a (([.b true]++cS++ca k++[.b w]++au f++au t)),dR x] [.a ((cR (k.y+sW w*rt (gB k x))++cR 0++cR 0)),.c (.i .i64 0)]:=by
 have hf:=vc.g.2.1
 have ht:=vc.g.2.2
 have hk:=vc.g.1
 have hB:=hb
 rw[jm] at hB
 have ofk:OnK k f:=⟨hf,cb.1 vc.sp⟩
 have otk:OnK k t:=⟨ht,cb.1 vc.sq⟩
 have hm0: ¬gB k x<0:=by
  have hb2:=hb
  unfold rV at hb2
  rw[Bool.and_eq_true,Bool.and_eq_true] at hb2
  have:=ti ofk otk (of_decide_eq_true hb2.2.1) (of_decide_eq_true hb2.2.2)
  grind
 refine Ok.fn Tryz.func14 64 [.cell 4 49,.tmp 5] rfl<|aa<|ab<|al 2<|aC (ai de rfl) rfl<|ag<|aa<|aa<|aR 9 rfl rfl<|ap 1<|aj (am rfl ((show Ok _ _ _ [.c (.b false)] from qp hk hf ht)))<|ap 3<|aj (am rfl (dP))<|aj (am rfl (wg (c:=(Cv.arc k w f t)) vc.g (hx.m_))) ?_
 refine bk<|az<|ar ?_
 refine aw rfl (fun hc1=>?_) (fun hc1=>?_)
 ·exact absurd hB (by rw[show iV (Cv.arc k w f t) x=false from by simpa using hc1,Bool.and_false];decide)
 ·refine ao<|aa<|aa<|ab<|ag<|aP rfl<|ao<|aa<|ab<|al 3<|ah (cD (cR k.x) aD rfl (by kernel_rfl))<|ah (am rfl (eP (aX hx) (aX (hk.x))))<|aC (ai bJ rfl) rfl<|ag ?_
  refine aa<|ab<|ah (am rfl (gM (by decide) (by decide)))<|aC (ai bJ rfl) rfl<|ag<|aa<|aa<|ab<|ag ?_
  refine aw rfl (fun hc2=>?_) (fun hc2=>?_)
  ·have e9:((1:Int):Rat)=sW w:=Ny hc2
   refine ab<|ah (am rfl (dt (gM (by decide) (by decide)) e9))<|ag<|aa<|aR 14 rfl rfl<|ap 2<|aj (cD (cR k.y) aD rfl (by kernel_rfl))<|ap 3<|aj (cD (cR k.q) aD rfl (by kernel_rfl))<|ap 2<|aj (am rfl (cW (aX (Rz.sub hx (hk.x))) (aX (Rz.sub hx (hk.x)))))<|aj (am rfl (eP (aX (hk.q)) (aX (Rz.mul (Rz.sub hx (hk.x)) (Rz.sub hx (hk.x))))))<|aj (am rfl (ol (c:=gB k x) (hk.y.m_) ((rT w).m_) ((oC hk hx).m_) (fun h=>absurd h hm0) hs))<|bk ?_
   refine az<|ag<|an ?_
   exact aq (a7 dx rfl (aE ae))
  ·have e9:((-1:Int):Rat)=sW w:=MI hc2
   refine Dw.weak (σ':=⟨64,[(2,.p 2 0),(3,.p 3 0),(4,.p 4 0),(8,.p 8 0),(9,.p 9 0)],[(2,48,([.b true]++cS++ca k++[.b w]++au f++au t)),(3,35,cR x),(4,49,cS),(8,35,cR (x-k.x)),(9,35,cR (sW w))]⟩) (aM ⟨rfl,rfl,rfl,rfl,rfl,trivial⟩ ⟨rfl,rfl,rfl,rfl,congrArg (fun q=>some (35,cR q)) e9,trivial⟩ rfl) ?_
   refine ao<|aa<|aR 14 rfl rfl<|ap 2<|aj (cD (cR k.y) aD rfl (by kernel_rfl))<|ap 3<|aj (cD (cR k.q) aD rfl (by kernel_rfl))<|ap 2<|aj (am rfl (cW (aX (Rz.sub hx (hk.x))) (aX (Rz.sub hx (hk.x)))))<|aj (am rfl (eP (aX (hk.q)) (aX (Rz.mul (Rz.sub hx (hk.x)) (Rz.sub hx (hk.x))))))<|aj (am rfl (ol (c:=gB k x) (hk.y.m_) ((rT w).m_) ((oC hk hx).m_) (fun h=>absurd h hm0) hs))<|bk<|az<|ag ?_
   refine an ?_
   exact aq (a7 dx rfl (aE ae))
theorem MV {k:Ci}{w:Bool}{f t:Pt}(vc:CvV (Cv.arc k w f t)) {x:Rat}(hx:Rz 2 x) (hb:rV (Cv.arc k w f t) x=true) (hs:go (gB k x)=false):Ok Tryz.prog 14 [.a (([.b true]++cS++ca k++[.b w]++au f++au t)),dR x] [.a ((cR k.y++cR (sW w)++cR (zc (sW w) (gB k x)))),.c (.i .i64 0)]:=by
 have hf:=vc.g.2.1
 have ht:=vc.g.2.2
 have hk:=vc.g.1
 have hB:=hb
 rw[jm] at hB
 have ofk:OnK k f:=⟨hf,cb.1 vc.sp⟩
 have otk:OnK k t:=⟨ht,cb.1 vc.sq⟩
 have hm0: ¬gB k x<0:=by
  have hb2:=hb
  unfold rV at hb2
  rw[Bool.and_eq_true,Bool.and_eq_true] at hb2
  have:=ti ofk otk (of_decide_eq_true hb2.2.1) (of_decide_eq_true hb2.2.2)
  grind
 refine Ok.fn Tryz.func14 64 [.cell 4 49,.tmp 5] rfl<|aa<|ab<|al 2<|aC (ai de rfl) rfl<|ag<|aa<|aa<|aR 9 rfl rfl<|ap 1<|aj (am rfl ((show Ok _ _ _ [.c (.b false)] from qp hk hf ht)))<|ap 3<|aj (am rfl (dP))<|aj (am rfl (wg (c:=(Cv.arc k w f t)) vc.g (hx.m_))) ?_
 refine bk<|az<|ar ?_
 refine aw rfl (fun hc1=>?_) (fun hc1=>?_)
 ·exact absurd hB (by rw[show iV (Cv.arc k w f t) x=false from by simpa using hc1,Bool.and_false];decide)
 ·refine ao<|aa<|aa<|ab<|ag<|aP rfl<|ao<|aa<|ab<|al 3<|ah (cD (cR k.x) aD rfl (by kernel_rfl))<|ah (am rfl (eP (aX hx) (aX (hk.x))))<|aC (ai bJ rfl) rfl<|ag ?_
  refine aa<|ab<|ah (am rfl (gM (by decide) (by decide)))<|aC (ai bJ rfl) rfl<|ag<|aa<|aa<|ab<|ag ?_
  refine aw rfl (fun hc2=>?_) (fun hc2=>?_)
  ·have e9:((1:Int):Rat)=sW w:=Ny hc2
   refine ab<|ah (am rfl (dt (gM (by decide) (by decide)) e9))<|ag<|aa<|aR 14 rfl rfl<|ap 2<|aj (cD (cR k.y) aD rfl (by kernel_rfl))<|ap 3<|aj (cD (cR k.q) aD rfl (by kernel_rfl))<|ap 2<|aj (am rfl (cW (aX (Rz.sub hx (hk.x))) (aX (Rz.sub hx (hk.x)))))<|aj (am rfl (eP (aX (hk.q)) (aX (Rz.mul (Rz.sub hx (hk.x)) (Rz.sub hx (hk.x))))))<|aj (am rfl (jr (oN (c:=gB k x) (hk.y.m_) ((rT w).m_) ((oC hk hx).m_) (fun h=>absurd h hm0) hs) rfl (Pu hs) (OK hs)))<|bk ?_
   refine az<|ag<|an ?_
   exact aq (a7 dx rfl (aE ae))
  ·have e9:((-1:Int):Rat)=sW w:=MI hc2
   refine Dw.weak (σ':=⟨64,[(2,.p 2 0),(3,.p 3 0),(4,.p 4 0),(8,.p 8 0),(9,.p 9 0)],[(2,48,([.b true]++cS++ca k++[.b w]++au f++au t)),(3,35,cR x),(4,49,cS),(8,35,cR (x-k.x)),(9,35,cR (sW w))]⟩) (aM ⟨rfl,rfl,rfl,rfl,rfl,trivial⟩ ⟨rfl,rfl,rfl,rfl,congrArg (fun q=>some (35,cR q)) e9,trivial⟩ rfl) ?_
   refine ao<|aa<|aR 14 rfl rfl<|ap 2<|aj (cD (cR k.y) aD rfl (by kernel_rfl))<|ap 3<|aj (cD (cR k.q) aD rfl (by kernel_rfl))<|ap 2<|aj (am rfl (cW (aX (Rz.sub hx (hk.x))) (aX (Rz.sub hx (hk.x)))))<|aj (am rfl (eP (aX (hk.q)) (aX (Rz.mul (Rz.sub hx (hk.x)) (Rz.sub hx (hk.x))))))<|aj (am rfl (jr (oN (c:=gB k x) (hk.y.m_) ((rT w).m_) ((oC hk hx).m_) (fun h=>absurd h hm0) hs) rfl (Pu hs) (OK hs)))<|bk<|az<|ag ?_
   refine an ?_
   exact aq (a7 dx rfl (aE ae))
theorem Ly {c:Cv}(vc:CvV c) {x:Rat}(hx:Rz 2 x):Ok Tryz.prog 14 [.a (aB c),dR x] (if rV c x then[.a (C0 c x),.c (.i .i64 0)] else[.a cS,.c (.i .i64 1)]):=by
 cases hb:rV c x with
 |false=>
  rw[if_neg (by decide)]
  cases c with
  |seg l f t=>exact Rh vc hx hb
  |arc k w f t=>exact QZ vc hx hb
 |true=>
  rw[if_pos rfl]
  cases c with
  |seg l f t=>exact Rx vc hx hb
  |arc k w f t=>
   cases hs:go (gB k x) with
   |true=>rw[Fr hs];exact NI vc hx hb hs
   |false=>rw[HZ hs];exact MV vc hx hb hs
theorem JX {b1 b2 c:Rat}(h:sI b1 b2 c=true):rj b2 (zc b2 c)=true:=by
 unfold rj
 by_cases e:b2=0
 ·rw[if_pos (.inl e),o8 e];exact decide_eq_true ⟨e,rfl⟩
 ·have h2:(decide (0<c)&& !go c)=true:=by
   unfold sI at h
   rw[if_neg (fun g=>e g.2)] at h;exact h
  rw[fS e,if_neg (fun g=>g.elim e (fun g=>by rw[g] at h2;simp at h2))];exact h2
theorem HN (c:Cv) (x:Rat):C0 c x=cR (tB c x).a2++cR (tB c x).b2++cR (zc (tB c x).b2 (tB c x).c):=by
 cases c with
 |seg l f t=>show cR _++cR 0++cR 0=cR _++cR 0++cR (zc 0 0);rw[o8 rfl];rfl
 |arc k w f t=>
  cases hs:go (gB k x) with
  |true=>
   rw[Fr hs,show tB (.arc k w f t) x=⟨x+0*rt (gB k x),0,k.y+sW w*rt (gB k x),0,0⟩ from if_pos hs]
   show _=cR _++cR 0++cR (zc 0 0)
   rw[o8 rfl]
  |false=>rw[HZ hs,show tB (.arc k w f t) x=⟨x,0,k.y,sW w,gB k x⟩ from if_neg (by rw[hs];decide)]
theorem SI (c:Cv) (x:Rat):x=(tB c x).a1∧0=(tB c x).b1:=by
 cases c with
 |seg l f t=>exact⟨rfl,rfl⟩
 |arc k w f t=>
  cases hs:go (gB k x) with
  |true=>
   rw[show tB (.arc k w f t) x=⟨x+0*rt (gB k x),0,k.y+sW w*rt (gB k x),0,0⟩ from if_pos hs]
   exact⟨by show x=x+0*rt (gB k x);grind,rfl⟩
  |false=>rw[show tB (.arc k w f t) x=⟨x,0,k.y,sW w,gB k x⟩ from if_neg (by rw[hs];decide)];exact⟨rfl,rfl⟩
theorem Qt {b1 b2 c:Rat}(h:sI b1 b2 c=true) (hb:0=b1):zcp 0 b2 (cc 0 0 (zc b2 c))=c:=by
 subst hb
 rw[tk rfl]
 by_cases e:b2=0
 ·unfold sI at h
  rw[if_pos ⟨rfl,e⟩] at h
  rw[xB rfl e];exact(of_decide_eq_true h).symm
 ·rw[yN e,fS e]
theorem Mr:Ok Tryz.prog 15 [.a (cS),.a (cS)] [.c (.b true)]:=by
 refine Ok.fn Tryz.func15 24 [.tmp 4] rfl<|aa<|ab<|ag<|aa<|ab<|al 1<|ah (aF (ua) aD rfl)<|al 1<|ah (aF (ua) aD rfl)<|ah (am rfl ((show Ok _ _ [.a OQ,.a OQ] _ from Ey)))<|al 2<|ah (aF (ua) aD rfl)<|al 1 ?_
 refine ah (aF (ua) aD rfl)<|ah (am rfl ((show Ok _ _ [.a OQ,.a OQ] _ from Ey)))<|al 3<|ah (aF (ua) aD rfl)<|al 1<|ah (aF (ua) aD rfl)<|ah (am rfl ((show Ok _ _ [.a OQ,.a OQ] _ from Ey)))<|ag<|an ?_
 exact aq (aE ae)
theorem We {p q:Pt}(hp:GP p) (hq:GP q):Ok Tryz.prog 19 [.a ((cR p.a2++cR p.b2++cR (zc p.b2 p.c))),.a ((cR q.a2++cR q.b2++cR (zc q.b2 q.c)))] [.c (.b (cy p q==0))]:=by
 refine Ok.fn Tryz.func19 9 [.tmp 4] rfl<|aa<|ab<|ag<|aa<|ab<|al 2<|ah (am rfl (UO hp hq))<|ag<|an ?_
 exact aq (aE ae)
theorem So {c:Cv}(vc:CvV c) {x:Rat}(hx:Rz 2 x) (hb:rV c x=true):Ok Tryz.prog 16 [.a ((cR x++cR 0++cR 0)),.a (C0 c x)] [.a (au (tB c x)),.c (.i .i64 0)]:=by
 have hg:=wY vc hx hb
 obtain⟨ea,eb⟩:=SI c x
 rw[HN]
 exact zg (tx (Rz.zero (by decide)) ((Rz.zc hg.c (by decide)).mono (by decide)) (fun h=>h.1 rfl)) ea eb rfl rfl (Qt hg.v eb)
theorem Qi {c:Cv}(vc:CvV c) {x:Rat}(hx:Rz 2 x) (hb:rV c x=true):Ok Tryz.prog 18 [.a (C0 c x)] [.c (.b true)]:=by
 have hg:=wY vc hx hb
 rw[HN]
 exact gQ (G0 (hg.a2.mono (by decide)) (hg.b2.mono (by decide)) ((Rz.zc hg.c (by decide)).mono (by decide))) (JX hg.v)
theorem Uw {c:Cv}(vc:CvV c) {x:Rat}(hx:Rz 2 x) (hb:rV c x=true):Ok Tryz.prog 19 [.a (C0 c x),.a (C0 c x)] [.c (.b true)]:=by
 have hg:=wY vc hx hb
 have h0:=b9 hg
 rw[HN]
 exact gQ (We hg hg) (by rw[tZ h0 h0,pS];rfl)
theorem Uq {X Y:List CellD}(lX:X.length=17) (lY:Y.length=17) (hA:Ok Tryz.prog 10 [] [.c (.b true)]) {L:List Cv}(lL:L.length≤12) (vL: ∀d∈L,CvV d) (hC:Ok Tryz.prog 12 [.a X,.a Y] [.c (.s ((L).length) (aI aB (L)))]) (mL: ∀d∈L,d.mono=true) {Z:List CellD}(lZ:Z.length=3) {x y:Rat}(hx:Rz 2 x) (hAt:Ok Tryz.prog 11 [.a Z] [.a ((cR x++cR y))]):Ok Tryz.prog 3 [.a (X),.a (Y),.a (Z)] [.c (.b true)]:=by
 refine Ok.fn Tryz.func3 79 [.tmp 6] rfl<|aa<|ab<|ag<|aa<|aa<|ab<|ah (am rfl (hA))<|ag<|aP rfl<|ao<|aa<|ab<|ah (aA (us:=Z) Vi rfl rfl (by rw[List.drop_zero];exact List.take_of_length_le (Nat.le_of_eq (lZ))) (lZ) rfl) ?_
 refine ah (am rfl (hAt))<|aC (ai il rfl) rfl<|ag<|aa<|aa<|ab<|ah (aA (us:=X) n8 rfl rfl (by rw[List.drop_zero];exact List.take_of_length_le (Nat.le_of_eq (lX))) (lX) rfl) ?_
 refine ah (aA (us:=Y) n8 rfl rfl (by rw[List.drop_zero];exact List.take_of_length_le (Nat.le_of_eq (lY))) (lY) rfl) ?_
 refine ah (am rfl (hC))<|ag<|aJ<|bD (ι:={n:Nat // n≤L.length}) (fun i=>⟨79,[(7,.p 7 0),(22,.v (.c (.s ((L).length) (aI aB (L))))),(23,.v (.c (.i .i64 (L.length:Int)))),(24,.v (.c (.i .i64 (i.1:Int))))],[(7,37,(cR x++cR y))]⟩) (fun i=>L.length-i.1) ⟨0,Nat.zero_le _⟩ (aM ⟨rfl,rfl,rfl,rfl,trivial⟩ ⟨rfl,trivial⟩ rfl) ?_
 rintro⟨n,h2⟩
 replace h2:n≤L.length:=h2
 show Dw _ _ ⟨79,[(7,.p 7 0),(22,.v (.c (.s ((L).length) (aI aB (L))))),(23,.v (.c (.i .i64 (L.length:Int)))),(24,.v (.c (.i .i64 (n:Int))))],[(7,37,(cR x++cR y))]⟩ _
 refine aa<|ab<|ag<|aa ?_
 refine aw rfl (fun hc1=>?_) (fun hc1=>?_)
 ·have g1:n<L.length:=by have:=of_decide_eq_true hc1;omega
  have vc:=vL _ (b8 (d:=bn) g1)
  have mc:=mL _ (b8 (d:=bn) g1)
  refine ao<|aa<|aJ<|aa<|ab<|ah (aW (us:=aB (L.getD n bn)++aI aB (L.drop (n+1))) eu rfl rfl (by omega) (aG ak _) (bz ak (bi g1)) rfl) ?_
  refine ah (bb (us:=aB (L.getD n bn)) bd rfl (df _ _) (ak _) rfl) ?_
  refine aC (ai eo rfl) rfl<|bL (aZ bd rfl rfl rfl (ak _) rfl rfl) ?_
  refine ar<|aa ?_
  rcases Bool.eq_false_or_eq_true (rV (L.getD n bn) x) with hb|hb
  ·--region 7
   refine ab<|ah (aA (us:=aB (L.getD n bn)) bd rfl rfl (by rw[List.drop_zero];exact List.take_of_length_le (Nat.le_of_eq (ak _))) (ak _) rfl) ?_
   refine al 1<|ah (aF (cR x) aD rfl)<|ah (am rfl ((by have h9:=Ek vc hx;rw[if_pos hb] at h9;exact h9))) ?_
   refine al 3<|aC (ai de rfl) rfl<|bL (aZ dx rfl rfl rfl (kz _ _) rfl rfl) ?_
   refine ag<|aa<|ab<|ah (aA (us:=aB (L.getD n bn)) bd rfl rfl (by rw[List.drop_zero];exact List.take_of_length_le (Nat.le_of_eq (ak _))) (ak _) rfl) ?_
   refine al 1<|ah (aF (cR x) aD rfl)<|ah (am rfl ((by have h9:=Ly vc hx;rw[if_pos hb] at h9;exact h9))) ?_
   refine al 3<|aC (ai de rfl) rfl<|bL (aZ dx rfl rfl rfl (kz _ _) rfl rfl) ?_
   refine ag<|aa<|aa<|ab<|ag<|aP rfl<|ao<|aa<|aa<|ab<|ag<|aP rfl<|ao<|aa ?_
   refine bZ 11 [14,999999] aU (by kernel_rfl) rfl rfl<|ap 1<|aj (aF (cR x) aD rfl)<|aj (am rfl (dP))<|aj (aA (us:=C0 (L.getD n bn) x) dx rfl rfl (by rw[List.drop_zero];exact List.take_of_length_le (Nat.le_of_eq (kz _ _))) (kz _ _) rfl) ?_
   refine aj (am rfl (So vc hx hb))<|ap 3<|ba (ai fO rfl) rfl<|gz (fG bo rfl) rfl rfl rfl rfl<|bk<|bG<|ar<|aa<|ab<|ah (aA (us:=C0 (L.getD n bn) x) dx rfl rfl (by rw[List.drop_zero];exact List.take_of_length_le (Nat.le_of_eq (kz _ _))) (kz _ _) rfl) ?_
   refine ah (am rfl (Qi vc hx hb))<|al 2<|ah (aA (us:=C0 (L.getD n bn) x) dx rfl rfl (by rw[List.drop_zero];exact List.take_of_length_le (Nat.le_of_eq (kz _ _))) (kz _ _) rfl) ?_
   refine ah (aA (us:=C0 (L.getD n bn) x) dx rfl rfl (by rw[List.drop_zero];exact List.take_of_length_le (Nat.le_of_eq (kz _ _))) (kz _ _) rfl) ?_
   refine ah (am rfl (Uw vc hx hb))<|al 7<|ah (aA (us:=aB (L.getD n bn)) bd rfl rfl (by rw[List.drop_zero];exact List.take_of_length_le (Nat.le_of_eq (ak _))) (ak _) rfl) ?_
   refine al 1<|ah (am rfl (gQ (wv vc.g (wY vc hx hb)) (Tf vc mc hx hb)))<|ag<|aP rfl<|ao<|ab<|ah (aK (r:=((n+1:Nat):Int)) rfl rfl ((aQ (by omega) (by omega)).trans (congrArg some (by omega))) rfl) ?_
   refine ag ?_
   exact⟨⟨n+1,g1⟩,aM ⟨rfl,rfl,rfl,rfl,trivial⟩ ⟨rfl,trivial⟩ rfl,by show L.length-(n+1)<L.length-n;omega⟩
  ·--region 7
   refine ab<|ah (aA (us:=aB (L.getD n bn)) bd rfl rfl (by rw[List.drop_zero];exact List.take_of_length_le (Nat.le_of_eq (ak _))) (ak _) rfl) ?_
   refine al 1<|ah (aF (cR x) aD rfl)<|ah (am rfl ((by have h9:=Ek vc hx;rw[if_neg (by rw[hb];decide)] at h9;exact h9))) ?_
   refine al 3<|aC (ai de rfl) rfl<|bL (aZ dx rfl rfl rfl (rfl) rfl rfl) ?_
   refine ag<|aa<|ab<|ah (aA (us:=aB (L.getD n bn)) bd rfl rfl (by rw[List.drop_zero];exact List.take_of_length_le (Nat.le_of_eq (ak _))) (ak _) rfl) ?_
   refine al 1<|ah (aF (cR x) aD rfl)<|ah (am rfl ((by have h9:=Ly vc hx;rw[if_neg (by rw[hb];decide)] at h9;exact h9))) ?_
   refine al 3<|aC (ai de rfl) rfl<|bL (aZ dx rfl rfl rfl (rfl) rfl rfl) ?_
   refine ag<|aa<|aa<|ab<|ag<|aP rfl<|ao<|aa<|aa<|ab<|ag<|bg rfl<|aa<|aa ?_
   refine ab<|ah (aA (us:=cS) dx rfl rfl (by rw[List.drop_zero];exact List.take_of_length_le (Nat.le_of_eq (rfl))) (rfl) rfl) ?_
   refine ah (aN (us:=cS) lQ de rfl rfl rfl) ?_
   refine ah (am rfl ((show Ok _ _ [.a cS,.a cS] _ from Mr)))<|ag<|aP rfl<|ao<|bj<|ab<|ah (aK (r:=((n+1:Nat):Int)) rfl rfl ((aQ (by omega) (by omega)).trans (congrArg some (by omega))) rfl) ?_
   refine ag ?_
   exact⟨⟨n+1,g1⟩,aM ⟨rfl,rfl,rfl,rfl,trivial⟩ ⟨rfl,trivial⟩ rfl,by show L.length-(n+1)<L.length-n;omega⟩
 ·refine bj<|aa<|ab<|ag<|an ?_
  exact aq (aE ae)
end Go.Proofs.YtkmdgigkbhmilaaGreat
namespace Go.Proofs.YtkmdgigkbhmilaaGreat
open Go.ChangeShapes Go.WideShapes Go.ChangeAt Go.RowKit
theorem HL {K U A B C D E F K' U' A' B' C' D' E' F' N:Int}(w0:0≤K∧K≤255) (w1:0≤U∧U≤255) (w2: -128≤A∧A≤127) (w3: -128≤B∧B≤127) (w4: -128≤C∧C≤127) (w5: -128≤D∧D≤127) (w6: -128≤E∧E≤127) (w7: -128≤F∧F≤127) (w8:0≤K'∧K'≤255) (w9:0≤U'∧U'≤255) (w10: -128≤A'∧A'≤127) (w11: -128≤B'∧B'≤127) (w12: -128≤C'∧C'≤127) (w13: -128≤D'∧D'≤127) (w14: -128≤E'∧E'≤127) (w15: -128≤F'∧F'≤127) (w16:0≤N∧N≤255) {K2 U2 A2 B2 C2 D2 E2 F2 K'2 U'2 A'2 B'2 C'2 D'2 E'2 F'2 N2:Int}(v0:0≤K2∧K2≤255) (v1:0≤U2∧U2≤255) (v2: -128≤A2∧A2≤127) (v3: -128≤B2∧B2≤127) (v4: -128≤C2∧C2≤127) (v5: -128≤D2∧D2≤127) (v6: -128≤E2∧E2≤127) (v7: -128≤F2∧F2≤127) (v8:0≤K'2∧K'2≤255) (v9:0≤U'2∧U'2≤255) (v10: -128≤A'2∧A'2≤127) (v11: -128≤B'2∧B'2≤127) (v12: -128≤C'2∧C'2≤127) (v13: -128≤D'2∧D'2≤127) (v14: -128≤E'2∧E'2≤127) (v15: -128≤F'2∧F'2≤127) (v16:0≤N2∧N2≤255) {p:SpD}(wp:p.Wf):Ok Tryz.prog 3 [.a (([.i .u8 K]++[.i .u8 U]++[.i .i8 A]++[.i .i8 B]++[.i .i8 C]++[.i .i8 D]++[.i .i8 E]++[.i .i8 F])++([.i .u8 K']++[.i .u8 U']++[.i .i8 A']++[.i .i8 B']++[.i .i8 C']++[.i .i8 D']++[.i .i8 E']++[.i .i8 F'])++[.i .u8 N]),.a (([.i .u8 K2]++[.i .u8 U2]++[.i .i8 A2]++[.i .i8 B2]++[.i .i8 C2]++[.i .i8 D2]++[.i .i8 E2]++[.i .i8 F2])++([.i .u8 K'2]++[.i .u8 U'2]++[.i .i8 A'2]++[.i .i8 B'2]++[.i .i8 C'2]++[.i .i8 D'2]++[.i .i8 E'2]++[.i .i8 F'2])++[.i .u8 N2]),.a (UX p)] [.c (.b true)]:=by
 obtain⟨L,vL,mL,lL,hC⟩:=zx rfl rfl (kr w0 w1 w2 w3 w4 w5 w6 w7 w8 w9 w10 w11 w12 w13 w14 w15 w16) (kr v0 v1 v2 v3 v4 v5 v6 v7 v8 v9 v10 v11 v12 v13 v14 v15 v16)
 obtain⟨x,y,hx,hq⟩:=U6 wp
 exact Uq rfl rfl kh lL vL hC mL rfl hx hq
set_option maxRecDepth 100000 in
theorem BX (os:Os) (started:os.Started) (H:Type) (enc:TypeId×Value→H):
 ReturnsInHanded {} Tryz.checked os 3 .any (Rows.monotoneAtSpec.pre6 enc Tryz.prog Tryz.f3 Rows.monotoneAtRow.domain false) (Rows.monotoneAtSpec.post enc Tryz.prog Tryz.f3 false true false false):=by
 refine returnsInHanded_of_change (C:=Tryz.checked) own started (by kernel_rfl) Tryz.func3
  (ChangeSpec.witness6 (enc:=enc) (C:=Tryz.checked) false ⟨#[],#[.agg #[.int .u8 0,.int .u8 0,.int .i8 0,.int .i8 0,.int .i8 0,.int .i8 0,.int .i8 0,.int .i8 0,.int .u8 0,.int .u8 0,.int .i8 0,.int .i8 0,.int .i8 0,.int .i8 0,.int .i8 0,.int .i8 0,.int .u8 0],.agg #[.int .u8 0,.int .u8 0,.int .i8 0,.int .i8 0,.int .i8 0,.int .i8 0,.int .i8 0,.int .i8 0,.int .u8 0,.int .u8 0,.int .i8 0,.int .i8 0,.int .i8 0,.int .i8 0,.int .i8 0,.int .i8 0,.int .u8 0],.agg #[.int .i16 0,.int .i16 0,.int .u8 0]],[]⟩ 8 (by kernel_rfl) (by kernel_rfl) (by kernel_rfl) (by kernel_rfl)) ?_
 intro W base args ds gs before hval0 hW hcnd _
 have hval: ∀(j:Nat) t v,Tryz.f3.params[j]? =some t→args[j]? =some v→Value.okWide Tryz.prog W .any base t v:=hval0
 have hW':=hW
 obtain⟨p,q,hA0,hV,rfl,hfz,hnd⟩:=hW
 have hA:DataW.TrodAll enc Tryz.prog W 0 (fun _=>true) true Tryz.f3.params.toList args.toList ds p:=hA0
 rw[Tryz.params3] at hA hval
 obtain⟨v0,vs0,d0,ds0,p0,q0,hargs,rfl,rfl,h0,r0⟩:=trodAll_cons hA
 obtain⟨v1,vs1,d1,ds1,p1,q1,rfl,rfl,rfl,h1,r1⟩:=trodAll_cons r0
 obtain⟨v2,vs2,d2,ds2,p2,q2,rfl,rfl,rfl,h2,r2⟩:=trodAll_cons r1
 obtain⟨rfl,rfl,rfl⟩:=trodAll_nil r2
 obtain rfl:args= #[v0,v1,v2]:=by cases args;simp_all
 obtain⟨rfl,rfl⟩:=trodVars_none hV
 obtain⟨a0,rfl,_⟩:=okWide_struct Tryz.underlying26 (hval 0 26 v0 rfl rfl)
 have k0:=h0
 have lt0: ∀x∈p0,x.block<W.heap.size:=by obtain⟨m,hm⟩:=k0;exact DataW.trod_lt m _ _ _ hm
 obtain⟨a1,rfl,_⟩:=okWide_struct Tryz.underlying26 (hval 1 26 v1 rfl rfl)
 have k1:=h1
 have lt1: ∀x∈p1,x.block<W.heap.size:=by obtain⟨m,hm⟩:=k1;exact DataW.trod_lt m _ _ _ hm
 obtain⟨a2,rfl,_⟩:=okWide_struct Tryz.underlying29 (hval 2 29 v2 rfl rfl)
 have k2:=h2
 have lt2: ∀x∈p2,x.block<W.heap.size:=by obtain⟨m,hm⟩:=k2;exact DataW.trod_lt m _ _ _ hm
 obtain⟨y00,y01,y02,y03,y04,y05,y06,y07,y08,y09,y010,y011,y012,y013,y014,y015,y016,g00,g01,g02,g03,g04,g05,g06,g07,g08,g09,g010,g011,g012,g013,g014,g015,g016,hr0⟩:=jc (show DataW.trod enc Tryz.prog W 0 _ _ h0.choose 26 a0.toList=some _ from h0.choose_spec)
 obtain⟨y10,y11,y12,y13,y14,y15,y16,y17,y18,y19,y110,y111,y112,y113,y114,y115,y116,g10,g11,g12,g13,g14,g15,g16,g17,g18,g19,g110,g111,g112,g113,g114,g115,g116,hr1⟩:=jc (show DataW.trod enc Tryz.prog W 0 _ _ h1.choose 26 a1.toList=some _ from h1.choose_spec)
 obtain⟨e20,w20,hr2⟩:=Nl (show DataW.trod enc Tryz.prog W 0 _ _ h2.choose 29 a2.toList=some _ from h2.choose_spec)
 clear hA0 hval0
 refine(wF (HL g00 g01 g02 g03 g04 g05 g06 g07 g08 g09 g010 g011 g012 g013 g014 g015 g016 g10 g11 g12 g13 g14 g15 g16 g17 g18 g19 g110 g111 g112 g113 g114 g115 g116 w20) (RdL.cons ⟨a0,rfl,hr0⟩ (RdL.cons ⟨a1,rfl,hr1⟩ (RdL.cons ⟨a2,rfl,hr2⟩ RdL.nil)))).mono fun e W' ⟨he,bel⟩=>?_
 subst he
 exact⟨_,rfl,_,_,_,[],_,[],hW',trodAll_mk1 (shut_bool Tryz.underlying4 _),(trodAll_cons_mk (Below.trod jq (by kernel_rfl) (of_decide_eq_true (by kernel_rfl)) k0 bel lt0) (trodAll_cons_mk (Below.trod jq (by kernel_rfl) (of_decide_eq_true (by kernel_rfl)) k1 bel lt1) (trodAll_cons_mk (Below.trod jq (by kernel_rfl) (of_decide_eq_true (by kernel_rfl)) k2 bel lt2) trodAll_mk0))),rfl,bel.frame _,fun h=>by cases h⟩
theorem at11_proved:Rows.MonotoneAtSaid:=
 OpenClaim.holds_of_wide 3 Tryz.f3 rfl rfl rfl rfl rfl rfl rfl ⟨rfl,rfl,rfl,rfl,rfl⟩ rfl rfl rfl rfl rfl Nx Tryz.func3 Nj
  (of_decide_eq_true (by kernel_rfl)) (by unfold Func.isWrapper;first|(rw[if_pos (by decide+kernel)];kernel_rfl)|(rw[if_neg (by decide+kernel)];exact⟨rfl,rfl⟩))
  (fun os started H enc _=>BX os started H enc)
end Go.Proofs.YtkmdgigkbhmilaaGreat
