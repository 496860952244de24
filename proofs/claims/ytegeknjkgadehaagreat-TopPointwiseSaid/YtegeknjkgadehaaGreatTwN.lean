/-Plain:the order of monotone curves is 0 exactly for equal curves. -/
import Derived.Test.YtegeknjkgadehaaGreatTwM
namespace Go.Proofs.YtegeknjkgadehaaGreat
open Go Go.RowKit
theorem Yy (y:Re) {x:Re}(h:bz x=0):bz (y*x)=0:=by rw[di,h,si]
theorem agv {x y:Rat}(h:bz (Re.of x-Re.of y)=0):x=y:=by
 rw[<-Mu] at h;have:aJ (x-y) 0=0:=by rw[tB];exact h
 have:=jE.1 this;grind
theorem X9 {x y:Re}(h:bz (x*y)=0) (g:bz x≠0):bz y=0:=by rw[di] at h;exact(zl.1 h).resolve_left g
theorem Eo {x y:Rat}(h:wE x y=true):x=y:=by have:=beq_iff_eq.1 h;rw[Mu] at this;exact agv this
def Uq (c d:Cv):Bool:=jy c d&&((c.cw==d.cw)&&(cP c.p d.p==0&&cP c.q d.q==0))
theorem MQ {k:Ci}{w:Bool}{f t p:Pt}(x:CvV (.arc k w f t)) (R:(Cv.arc k w f t).mono=true) (j:OnK k p):
 (Cv.arc k w f t).on p=true↔kd k p≠(if w then 3 else 1)/\cx f p<=0/\cx p t<=0:=by
 have y:0<k.q:=x.pos
 have N:=x.g.1
 have of:OnK k f:=⟨x.g.2.1,eC.1 x.sp⟩
 have u:OnK k t:=⟨x.g.2.2,eC.1 x.sq⟩
 have K:=Ei N y of u R
 have af:=io (bZ of) (bZ j)
 have E:=iH y j of
 have D:=iH y j u
 rw[IB (eC.2 j.2)]
 show(decide ((Cv.arc k w f t).ord f p<=0)&&decide ((Cv.arc k w f t).ord p t<=0))=true↔_
 cases w with
 |false=>
  rw[Fi of.1 u.1 j.1,decide_eq_true_iff,uQ]
  have h:=lJ (bZ of) (bZ j) (bZ u)
  obtain⟨J,H,I⟩:=K
  obtain⟨i,hi⟩:=fG (fA p f)
  obtain⟨l,hl⟩:=fG (fA p t)
  rw[I] at h⊢
  rw[hi] at h E⊢
  rw[hl] at h D⊢
  rw[Xk _ _ _ i l J H E D h,if_neg (by decide)]
  constructor
  ·grind
  grind
 |true=>
  rw[LB y of u j,decide_eq_true_iff,uQ]
  have h:=lJ (bZ u) (bZ j) (bZ of)
  obtain⟨J,H,I⟩:=K
  obtain⟨i,hi⟩:=fG (fA p t)
  obtain⟨l,hl⟩:=fG (fA p f)
  rw[I] at h⊢
  rw[hi] at h D⊢
  rw[hl] at h E⊢
  rw[Wu _ _ _ i l J H D E h,if_pos rfl]
  constructor
  ·grind
  grind
def Cv.over (c:Cv) (p:Pt):Bool:=decide (cx c.p p<=0)&&decide (cx p c.q<=0)
def yp (c:Cv) (p:Pt):Int:=if c.vert then(if cy p c.q>0 then 1 else if cy p c.p<0 then-1 else 0) else
 match c with
 | .seg l _ _=>jz l p*aJ l.b 0
 | .arc k w _ _=>if w then(if mA p k.y<0 then-1 else-j7 k p) else if mA p k.y>0 then 1 else j7 k p
def ii (c:Cv) (p:Pt):Int:=if c.over p then yp c p else 0
def iK (c:Cv) (p:Pt):Int:=if c.over p then 0 else 1
theorem PP:jB 0=true:=by decide+kernel
end Go.Proofs.YtegeknjkgadehaaGreat
